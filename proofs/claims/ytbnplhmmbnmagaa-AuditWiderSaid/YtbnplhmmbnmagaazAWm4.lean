/- A part of the proof of AuditWider: walks written by a program of this session. -/
import Derived.Test.YtbnplhmmbnmagaazAWm2
