/- A part of the proof of CodeDecodes: walks written by a program of this session. -/
import Derived.Test.YtlocnfkkfpfpfaazCDm1
namespace Go.Proofs.Ytlocnfkkfpfpfaa.Six
open Go.RowKit Go.Proofs.YtlocnfkkfpfpfaaW.PrintWords Go.Proofs.YtlocnfkkfpfpfaaW.PrintLast Go.Proofs.YtlocnfkkfpfpfaaW.PrintMore
attribute [local go_sem] max2_int min2_int max_two min_two max_three min_three max_four min_four
attribute [local go_sem] Go.Proofs.YtlocnfkkfpfpfaaX.binOp_leq Go.Proofs.YtlocnfkkfpfpfaaX.binOp_geq Go.Proofs.YtlocnfkkfpfpfaaX.binOp_gtr
set_option linter.unusedVariables false
set_option linter.unusedSimpArgs false
mutual
def berthref20_Copy.l0 : Nat → Int → List ByteArray → List Int → List (List ByteArray) → List (List Int) → List (S74) → Int → Int → List ByteArray → List Int → List (List ByteArray) → List (S74) → Int → Int → Option (List ByteArray × List Int × (List (List ByteArray)) × (List (List Int)) × (List (S74)) × Int × Int)
  | 0, _, _, _, _, _, _, _, _, _, _, _, _, _, _ => none
  | k + 1, x4, x311000, x311001, x311002, x311003, x311004, x311005, x311006, x313000, x313001, x313002, x313004, x313005, x313006 => if x4 < (x311002.length : Int) then ((some (([] : List ByteArray) : List ByteArray)).bind fun y322 => (if 0 ≤ x4 then (if y322.length + (rd_L2 x311002 x4).length < 8796093022208 then (if x313002.length < 5864062014805 then (berthref20_Copy.l0 k (wrap64 (x4 + 1)) x311000 x311001 x311002 x311003 x311004 x311005 x311006 x313000 x313001 (x313002 ++ [(y322 ++ (rd_L2 x311002 x4))]) x313004 x313005 x313006) else (none)) else (none)) else (none))) else (berthref20_Copy.l1 k 0 x311000 x311001 x311002 x311003 x311004 x311005 x311006 x313000 x313001 x313002 ([] : List (List Int)) x313004 x313005 x313006)
def berthref20_Copy.l1 : Nat → Int → List ByteArray → List Int → List (List ByteArray) → List (List Int) → List (S74) → Int → Int → List ByteArray → List Int → List (List ByteArray) → List (List Int) → List (S74) → Int → Int → Option (List ByteArray × List Int × (List (List ByteArray)) × (List (List Int)) × (List (S74)) × Int × Int)
  | 0, _, _, _, _, _, _, _, _, _, _, _, _, _, _, _ => none
  | k + 1, x5, x311000, x311001, x311002, x311003, x311004, x311005, x311006, x313000, x313001, x313002, x313003, x313004, x313005, x313006 => if x5 < (x311003.length : Int) then ((some (([] : List Int) : List Int)).bind fun y332 => (if 0 ≤ x5 then (if y332.length + (rd_L3 x311003 x5).length < 17592186044416 then (if x313003.length < 5864062014805 then (berthref20_Copy.l1 k (wrap64 (x5 + 1)) x311000 x311001 x311002 x311003 x311004 x311005 x311006 x313000 x313001 x313002 (x313003 ++ [(y332 ++ (rd_L3 x311003 x5))]) x313004 x313005 x313006) else (none)) else (none)) else (none))) else (some (x313000, x313001, x313002, x313003, x313004, x313005, x313006))
end
def berthref20_Copy.f (k : Nat) (l0_0 : List ByteArray) (l0_1 : List Int) (l0_2 : List (List ByteArray)) (l0_3 : List (List Int)) (l0_4 : List (S74)) (a0_5 : Int) (a0_6 : Int) : Option (List ByteArray × List Int × (List (List ByteArray)) × (List (List Int)) × (List (S74)) × Int × Int) := if ([] : List ByteArray).length + l0_0.length < 8796093022208 then (if ([] : List Int).length + l0_1.length < 17592186044416 then (if ([] : List (S74)).length + l0_4.length < 4398046511104 then (berthref20_Copy.l0 k 0 l0_0 l0_1 l0_2 l0_3 l0_4 a0_5 a0_6 (([] : List ByteArray) ++ l0_0) (([] : List Int) ++ l0_1) ([] : List (List ByteArray)) (([] : List (S74)) ++ l0_4) a0_5 a0_6) else (none)) else (none)) else (none)
theorem berthref20_Copy.mono_l : ∀ k, (∀ y0 y1 y2 y3 y4 y5 y6 y7 y8 y9 y10 y11 y12 y13, LeO (berthref20_Copy.l0 k y0 y1 y2 y3 y4 y5 y6 y7 y8 y9 y10 y11 y12 y13) (berthref20_Copy.l0 (k + 1) y0 y1 y2 y3 y4 y5 y6 y7 y8 y9 y10 y11 y12 y13)) ∧ (∀ y0 y1 y2 y3 y4 y5 y6 y7 y8 y9 y10 y11 y12 y13 y14, LeO (berthref20_Copy.l1 k y0 y1 y2 y3 y4 y5 y6 y7 y8 y9 y10 y11 y12 y13 y14) (berthref20_Copy.l1 (k + 1) y0 y1 y2 y3 y4 y5 y6 y7 y8 y9 y10 y11 y12 y13 y14))
  | 0 => ⟨fun _ _ _ _ _ _ _ _ _ _ _ _ _ _ r h => by simp [berthref20_Copy.l0] at h, fun _ _ _ _ _ _ _ _ _ _ _ _ _ _ _ r h => by simp [berthref20_Copy.l1] at h⟩
  | k + 1 => by
    obtain ⟨ih0, ih1⟩ := berthref20_Copy.mono_l k
    refine ⟨?_, ?_⟩
    · intro y0 y1 y2 y3 y4 y5 y6 y7 y8 y9 y10 y11 y12 y13
      unfold berthref20_Copy.l0
      repeat' first
      | (with_reducible exact ih0 _ _ _ _ _ _ _ _ _ _ _ _ _ _)
      | (with_reducible exact ih1 _ _ _ _ _ _ _ _ _ _ _ _ _ _ _)
      | (with_reducible exact LeO.refl _)
      | (with_reducible exact LeO.none _)
      | (with_reducible refine LeO.ite ?_ ?_)
      | (with_reducible refine LeO.bind ?_ (fun _ => ?_))
      | exact ih0 _ _ _ _ _ _ _ _ _ _ _ _ _ _
      | exact ih1 _ _ _ _ _ _ _ _ _ _ _ _ _ _ _
      | exact LeO.none _
      | refine LeO.ite ?_ ?_
      | refine LeO.bind ?_ (fun _ => ?_)
    · intro y0 y1 y2 y3 y4 y5 y6 y7 y8 y9 y10 y11 y12 y13 y14
      unfold berthref20_Copy.l1
      repeat' first
      | (with_reducible exact ih0 _ _ _ _ _ _ _ _ _ _ _ _ _ _)
      | (with_reducible exact ih1 _ _ _ _ _ _ _ _ _ _ _ _ _ _ _)
      | (with_reducible exact LeO.refl _)
      | (with_reducible exact LeO.none _)
      | (with_reducible refine LeO.ite ?_ ?_)
      | (with_reducible refine LeO.bind ?_ (fun _ => ?_))
      | exact ih0 _ _ _ _ _ _ _ _ _ _ _ _ _ _
      | exact ih1 _ _ _ _ _ _ _ _ _ _ _ _ _ _ _
      | exact LeO.none _
      | refine LeO.ite ?_ ?_
      | refine LeO.bind ?_ (fun _ => ?_)
theorem berthref20_Copy.mono : ∀ a0 a1 a2 a3 a4 a5 a6 k, LeO (berthref20_Copy.f k a0 a1 a2 a3 a4 a5 a6) (berthref20_Copy.f (k + 1) a0 a1 a2 a3 a4 a5 a6) := by
  intro a0 a1 a2 a3 a4 a5 a6 k
  obtain ⟨ih0, ih1⟩ := berthref20_Copy.mono_l k
  unfold berthref20_Copy.f
  repeat' first
      | (with_reducible exact ih0 _ _ _ _ _ _ _ _ _ _ _ _ _ _)
      | (with_reducible exact ih1 _ _ _ _ _ _ _ _ _ _ _ _ _ _ _)
      | (with_reducible exact LeO.refl _)
      | (with_reducible exact LeO.none _)
      | (with_reducible refine LeO.ite ?_ ?_)
      | (with_reducible refine LeO.bind ?_ (fun _ => ?_))
      | exact ih0 _ _ _ _ _ _ _ _ _ _ _ _ _ _
      | exact ih1 _ _ _ _ _ _ _ _ _ _ _ _ _ _ _
      | exact LeO.none _
      | refine LeO.ite ?_ ?_
      | refine LeO.bind ?_ (fun _ => ?_)
end Go.Proofs.Ytlocnfkkfpfpfaa.Six
