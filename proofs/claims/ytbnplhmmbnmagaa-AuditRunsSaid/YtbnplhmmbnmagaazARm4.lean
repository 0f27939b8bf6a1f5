/- A part of the proof of AuditRuns: walks written by a program of this session. -/
import Derived.Test.YtbnplhmmbnmagaazARm2
