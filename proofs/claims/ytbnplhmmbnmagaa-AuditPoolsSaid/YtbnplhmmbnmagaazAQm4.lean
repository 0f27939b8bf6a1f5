/- A part of the proof of AuditPools: walks written by a program of this session. -/
import Derived.Test.YtbnplhmmbnmagaazAQm2
