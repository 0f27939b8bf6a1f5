/- A part of the proof of QuantSums: walks written by a program of this session. -/
import Derived.Test.YtbibnendaddbhaazSumsm11
import Derived.Test.YtbibnendaddbhaazSumsm12
import Derived.Test.YtbibnendaddbhaazSumsm13
import Derived.Test.YtbibnendaddbhaazSumsm0
import Derived.Test.YtbibnendaddbhaazSumsm3
import Derived.Test.YtbibnendaddbhaazSumsm5
import Derived.Test.YtbibnendaddbhaazSumsm8
import Derived.Test.YtbibnendaddbhaazSumsm9
import Derived.Test.YtbibnendaddbhaazSumsm10
namespace Go.Proofs.Ytbibnendaddbhaa.All
open Go.RowKit Go.Proofs.YtbibnendaddbhaaW.PrintWords Go.Proofs.YtbibnendaddbhaaW.PrintLast Go.Proofs.YtbibnendaddbhaaW.PrintMore
attribute [local go_sem] max2_int min2_int max_two min_two max_three min_three max_four min_four
attribute [local go_sem] Go.Proofs.YtbibnendaddbhaaX.binOp_leq Go.Proofs.YtbibnendaddbhaaX.binOp_geq Go.Proofs.YtbibnendaddbhaaX.binOp_gtr
set_option linter.unusedVariables false
set_option linter.unusedSimpArgs false
theorem berthlaw02_sums.calls (k : Nat) (a0_0 : Int) (a0_1 : ByteArray) (A0_2 : Option Addr) (c0_2 : Nat) (l0_2 : List (S28)) (A0_3 : Option Addr) (c0_3 : Nat) (l0_3 : List (S28)) (A0_4 : Option Addr) (c0_4 : Nat) (l0_4 : List (S28)) (r : Bool) (w : World) (hr0_2 : Kd.C k28 w A0_2 l0_2.length l0_2) (hc0_2 : l0_2.length ≤ c0_2) (hr0_3 : Kd.C k28 w A0_3 l0_3.length l0_3) (hc0_3 : l0_3.length ≤ c0_3) (hr0_4 : Kd.C k28 w A0_4 l0_4.length l0_4) (hc0_4 : l0_4.length ≤ c0_4) (h : berthlaw02_sums.f k a0_0 a0_1 l0_2 l0_3 l0_4 = some r) :
 Calls Try.prog 23 #[.agg #[.int .i64 a0_0, .string a0_1, .slice A0_2 l0_2.length c0_2, .slice A0_3 l0_3.length c0_3, .slice A0_4 l0_4.length c0_4]] w fun e w' => e = .returned (.bool r) ∧ Below w.heap.size w w' := by
 by_cases c2 : a0_0 = 7
 ·
  exact berthlaw02_sums.calls_a k a0_0 a0_1 A0_2 c0_2 l0_2 A0_3 c0_3 l0_3 A0_4 c0_4 l0_4 r w hr0_2 hc0_2 hr0_3 hc0_3 hr0_4 hc0_4 h c2
 ·
  exact berthlaw02_sums.calls_b k a0_0 a0_1 A0_2 c0_2 l0_2 A0_3 c0_3 l0_3 A0_4 c0_4 l0_4 r w hr0_2 hc0_2 hr0_3 hc0_3 hr0_4 hc0_4 h c2
end Go.Proofs.Ytbibnendaddbhaa.All
