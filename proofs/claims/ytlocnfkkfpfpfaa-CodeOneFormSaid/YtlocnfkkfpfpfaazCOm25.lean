/- small and Copy, plain; what they answer of a program. -/
import Derived.Test.YtlocnfkkfpfpfaazCOm22
import Derived.Test.YtlocnfkkfpfpfaazCOm23
import Derived.Test.YtlocnfkkfpfpfaazCOm24
