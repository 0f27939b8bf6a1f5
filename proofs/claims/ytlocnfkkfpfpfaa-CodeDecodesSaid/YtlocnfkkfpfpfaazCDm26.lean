/- small and Copy, plain; what they answer of a program. -/
import Derived.Test.YtlocnfkkfpfpfaazCDm23
import Derived.Test.YtlocnfkkfpfpfaazCDm24
import Derived.Test.YtlocnfkkfpfpfaazCDm25
