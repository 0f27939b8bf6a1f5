/- A part of the proof of QuantSums: walks written by a program of this session. -/
import Derived.Test.YtbibnendaddbhaazSumsm0
import Derived.Test.YtbibnendaddbhaazSumsm3
import Derived.Test.YtbibnendaddbhaazSumsm5
import Derived.Test.YtbibnendaddbhaazSumsm8
import Derived.Test.YtbibnendaddbhaazSumsm9
import Derived.Test.YtbibnendaddbhaazSumsm10
namespace Go.Proofs.Ytbibnendaddbhaa.All
open Go.RowKit Go.Proofs.YtbibnendaddbhaaW.PrintWords Go.Proofs.YtbibnendaddbhaaW.PrintLast Go.Proofs.YtbibnendaddbhaaW.PrintMore
attribute [local go_sem] max2_int min2_int max_two min_two max_three min_three max_four min_four
attribute [local go_sem] Go.Proofs.YtbibnendaddbhaaX.binOp_leq Go.Proofs.YtbibnendaddbhaaX.binOp_geq Go.Proofs.YtbibnendaddbhaaX.binOp_gtr
set_option linter.unusedVariables false
set_option linter.unusedSimpArgs false
def berthlaw02_sums.f (k : Nat) (a0_0 : Int) (a0_1 : ByteArray) (l0_2 : List (S28)) (l0_3 : List (S28)) (l0_4 : List (S28)) : Option (Bool) := if a0_0 = 7 then ((berthlaw02_Copied.f l0_2).bind fun t412 => ((berthlaw02_Copied.f l0_3).bind fun t415 => ((berthref02_Add.f k t412 t415).bind fun bt418 => ((berthlaw02_Copied.f l0_2).bind fun t423 => ((berthlaw02_Copied.f l0_3).bind fun t426 => ((quant_Add.f k t423 t426).bind fun bt429 => ((berthlaw02_Same.f k bt429.1 bt418.1).bind fun t434 => (if t434 = true then (if bt429.2.1.toList = bt418.2.1.toList then (some (bt429.2.2 == bt418.2.2)) else (some false)) else (some false))))))))) else (if a0_0 = 8 then ((berthlaw02_Copied.f l0_2).bind fun t435 => ((berthlaw02_Copied.f l0_3).bind fun t438 => ((berthref02_Sub.f k t435 t438).bind fun bt441 => ((berthlaw02_Copied.f l0_2).bind fun t446 => ((berthlaw02_Copied.f l0_3).bind fun t449 => ((quant_Sub.f k t446 t449).bind fun bt452 => ((berthlaw02_Same.f k bt452.1 bt441.1).bind fun t457 => (if t457 = true then (if bt452.2.1.toList = bt441.2.1.toList then (some (bt452.2.2 == bt441.2.2)) else (some false)) else (some false))))))))) else (if a0_0 = 9 then ((berthlaw02_Copied.f l0_2).bind fun t458 => ((berthlaw02_Copied.f l0_3).bind fun t461 => ((berthlaw02_Copied.f l0_4).bind fun t464 => ((berthref02_Short.f k t458 t461 t464).bind fun bt467 => ((berthlaw02_Copied.f l0_2).bind fun t469 => ((berthlaw02_Copied.f l0_3).bind fun t472 => ((berthlaw02_Copied.f l0_4).bind fun t475 => ((quant_Short.f k t469 t472 t475).bind fun bt478 => (if bt478.1.toList = bt467.1.toList then (some (bt478.2 == bt467.2)) else (some false)))))))))) else (some true)))
theorem berthlaw02_sums.mono : ∀ a0 a1 a2 a3 a4 k, LeO (berthlaw02_sums.f k a0 a1 a2 a3 a4) (berthlaw02_sums.f (k + 1) a0 a1 a2 a3 a4) := by
  intro a0 a1 a2 a3 a4 k
  unfold berthlaw02_sums.f
  repeat' first
      | (with_reducible exact berthlaw02_Same.mono _ _ _)
      | (with_reducible exact berthref02_Add.mono _ _ _)
      | (with_reducible exact berthref02_Short.mono _ _ _ _)
      | (with_reducible exact berthref02_Sub.mono _ _ _)
      | (with_reducible exact quant_Add.mono _ _ _)
      | (with_reducible exact quant_Short.mono _ _ _ _)
      | (with_reducible exact quant_Sub.mono _ _ _)
      | (with_reducible exact LeO.refl _)
      | (with_reducible exact LeO.none _)
      | (with_reducible refine LeO.ite ?_ ?_)
      | (with_reducible refine LeO.bind ?_ (fun _ => ?_))
      | exact berthlaw02_Same.mono _ _ _
      | exact berthref02_Add.mono _ _ _
      | exact berthref02_Short.mono _ _ _ _
      | exact berthref02_Sub.mono _ _ _
      | exact quant_Add.mono _ _ _
      | exact quant_Short.mono _ _ _ _
      | exact quant_Sub.mono _ _ _
      | exact LeO.none _
      | refine LeO.ite ?_ ?_
      | refine LeO.bind ?_ (fun _ => ?_)
def berthlaw02_sums.T3 : Bool × List (List Nat × List Nat) := (true, [([], []), ([0], [0]), ([1], [1]), ([], []), ([3], [3]), ([4, 2], [4]), ([2, 5, 5], [2, 5]), ([6], [6]), ([7], [7]), ([7], [7]), ([7], [7]), ([8, 6, 0, 1, 2, 3, 4, 5, 6, 7, 8], [8]), ([9, 11, 0, 1, 2, 3, 4, 5, 6, 7, 8, 9, 11], [9]), ([10, 12, 0, 1, 2, 3, 4, 5, 6, 7, 8, 9, 10, 11, 12], [10])])
def berthlaw02_sums.B3 : List Nat := [0, 1, 3, 0, 8, 31, 63, 127, 255, 255, 255, 511, 3071, 8191]
theorem berthlaw02_sums.tab3 : rtab .any (opsOf Try.f23 3) = berthlaw02_sums.T3 := by kernel_rfl
theorem berthlaw02_sums.bits3 : waitsOk berthlaw02_sums.T3.2 berthlaw02_sums.B3 = true := by kernel_rfl
def berthlaw02_sums.T4 : Bool × List (List Nat × List Nat) := (true, [([], []), ([0], [0]), ([1], [1]), ([], []), ([3], [3]), ([4, 2], [4]), ([2, 5, 5], [2, 5]), ([6], [6]), ([7], [7]), ([7], [7]), ([7], [7]), ([8, 6, 0, 1, 2, 3, 4, 5, 6, 7, 8], [8]), ([9, 11, 0, 1, 2, 3, 4, 5, 6, 7, 8, 9, 11], [9]), ([10, 12, 0, 1, 2, 3, 4, 5, 6, 7, 8, 9, 10, 11, 12], [10])])
def berthlaw02_sums.B4 : List Nat := [0, 1, 3, 0, 8, 31, 63, 127, 255, 255, 255, 511, 3071, 8191]
theorem berthlaw02_sums.tab4 : rtab .any (opsOf Try.f23 4) = berthlaw02_sums.T4 := by kernel_rfl
theorem berthlaw02_sums.bits4 : waitsOk berthlaw02_sums.T4.2 berthlaw02_sums.B4 = true := by kernel_rfl
def berthlaw02_sums.T7 : Bool × List (List Nat × List Nat) := (true, [([], []), ([0], [0]), ([1], [1]), ([], []), ([3], [3]), ([4, 2], [4]), ([2, 5, 5], [2, 5]), ([6], [6]), ([7], [7]), ([7], [7]), ([7], [7]), ([8, 6, 0, 1, 2, 3, 4, 5, 6, 7, 8], [8]), ([9, 11, 0, 1, 2, 3, 4, 5, 6, 7, 8, 9, 11], [9]), ([10, 12, 0, 1, 2, 3, 4, 5, 6, 7, 8, 9, 10, 11, 12], [10])])
def berthlaw02_sums.B7 : List Nat := [0, 1, 3, 0, 8, 31, 63, 127, 255, 255, 255, 511, 3071, 8191]
theorem berthlaw02_sums.tab7 : rtab .any (opsOf Try.f23 7) = berthlaw02_sums.T7 := by kernel_rfl
theorem berthlaw02_sums.bits7 : waitsOk berthlaw02_sums.T7.2 berthlaw02_sums.B7 = true := by kernel_rfl
def berthlaw02_sums.T8 : Bool × List (List Nat × List Nat) := (true, [([], []), ([0], [0]), ([1], [1]), ([], []), ([3], [3]), ([4, 2], [4]), ([2, 5, 5], [2, 5]), ([6], [6]), ([7], [7]), ([7], [7]), ([7], [7]), ([8, 6, 0, 1, 2, 3, 4, 5, 6, 7, 8], [8]), ([9, 11, 0, 1, 2, 3, 4, 5, 6, 7, 8, 9, 11], [9]), ([10, 12, 0, 1, 2, 3, 4, 5, 6, 7, 8, 9, 10, 11, 12], [10])])
def berthlaw02_sums.B8 : List Nat := [0, 1, 3, 0, 8, 31, 63, 127, 255, 255, 255, 511, 3071, 8191]
theorem berthlaw02_sums.tab8 : rtab .any (opsOf Try.f23 8) = berthlaw02_sums.T8 := by kernel_rfl
theorem berthlaw02_sums.bits8 : waitsOk berthlaw02_sums.T8.2 berthlaw02_sums.B8 = true := by kernel_rfl
def berthlaw02_sums.T11 : Bool × List (List Nat × List Nat) := (true, [([], []), ([0], [0]), ([1], [1]), ([], []), ([3], [3]), ([4, 2], [4]), ([], []), ([6], [6]), ([7, 5], [7]), ([2, 5, 8, 8], [2, 5, 8]), ([9], [9]), ([10], [10]), ([10], [10]), ([11, 9, 0, 1, 2, 3, 4, 5, 6, 7, 8, 9, 10, 11], [11]), ([12, 13, 0, 1, 2, 3, 4, 5, 6, 7, 8, 9, 10, 11, 12, 13], [12])])
def berthlaw02_sums.B11 : List Nat := [0, 1, 3, 0, 8, 31, 0, 64, 255, 511, 1023, 2047, 2047, 4095, 16383]
theorem berthlaw02_sums.tab11 : rtab .any (opsOf Try.f23 11) = berthlaw02_sums.T11 := by kernel_rfl
theorem berthlaw02_sums.bits11 : waitsOk berthlaw02_sums.T11.2 berthlaw02_sums.B11 = true := by kernel_rfl
def berthlaw02_sums.T12 : Bool × List (List Nat × List Nat) := (true, [([], []), ([0], [0]), ([1], [1]), ([], []), ([3], [3]), ([4, 2], [4]), ([], []), ([6], [6]), ([7, 5], [7]), ([2, 5, 8, 8], [2, 5, 8]), ([9], [9]), ([10], [10]), ([10], [10]), ([11, 9, 0, 1, 2, 3, 4, 5, 6, 7, 8, 9, 10, 11], [11]), ([12, 13, 0, 1, 2, 3, 4, 5, 6, 7, 8, 9, 10, 11, 12, 13], [12])])
def berthlaw02_sums.B12 : List Nat := [0, 1, 3, 0, 8, 31, 0, 64, 255, 511, 1023, 2047, 2047, 4095, 16383]
theorem berthlaw02_sums.tab12 : rtab .any (opsOf Try.f23 12) = berthlaw02_sums.T12 := by kernel_rfl
theorem berthlaw02_sums.bits12 : waitsOk berthlaw02_sums.T12.2 berthlaw02_sums.B12 = true := by kernel_rfl
end Go.Proofs.Ytbibnendaddbhaa.All
