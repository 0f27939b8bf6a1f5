/- A part of the proof of AuditPrograms: walks written by a program of this session. -/
import Derived.Test.YtbnplhmmbnmagaazAGm2
