/- A part of the proof of QuantSums: walks written by a program of this session. -/
import Derived.Test.YtbibnendaddbhaazSumsm0
import Derived.Test.YtbibnendaddbhaazSumsm2
import Derived.Test.YtbibnendaddbhaazSumsm3
import Derived.Test.YtbibnendaddbhaazSumsm5
namespace Go.Proofs.Ytbibnendaddbhaa.All
open Go.RowKit Go.Proofs.YtbibnendaddbhaaW.PrintWords Go.Proofs.YtbibnendaddbhaaW.PrintLast Go.Proofs.YtbibnendaddbhaaW.PrintMore
attribute [local go_sem] max2_int min2_int max_two min_two max_three min_three max_four min_four
attribute [local go_sem] Go.Proofs.YtbibnendaddbhaaX.binOp_leq Go.Proofs.YtbibnendaddbhaaX.binOp_geq Go.Proofs.YtbibnendaddbhaaX.binOp_gtr
set_option linter.unusedVariables false
set_option linter.unusedSimpArgs false
mutual
def berthlaw02_QuantAway.j0 : Nat → List (S28) → List (S28) → List (S28) → Int → List (S28) → Int → Bool → Option (Bool)
  | 0, _, _, _, _, _, _, _ => none
  | k + 1, x0, x1, x5, x7, x8, x10, x50 => if x50 = true then (if x7 = 0 then (some false) else (some (x10 != 0))) else (if x7 = x10 then ((berthlaw02_Same.f k x5 x8).bind fun t307 => (berthlaw02_QuantAway.j1 k x0 x1 x5 x7 (!t307))) else (berthlaw02_QuantAway.j1 k x0 x1 x5 x7 true))
def berthlaw02_QuantAway.j1 : Nat → List (S28) → List (S28) → List (S28) → Int → Bool → Option (Bool)
  | 0, _, _, _, _, _ => none
  | k + 1, x0, x1, x5, x7, x65 => if x65 = true then (some false) else (if x7 = 0 then ((berthlaw02_Copied.f x5).bind fun t308 => ((berthlaw02_Copied.f x1).bind fun t311 => ((quant_Sub.f k t308 t311).bind fun bt314 => ((berthlaw02_Copied.f x5).bind fun t319 => ((berthlaw02_Copied.f x0).bind fun t322 => ((quant_Sub.f k t319 t322).bind fun bt325 => (if bt314.2.2 = 0 then (if bt325.2.2 = 0 then ((berthlaw02_Same.f k bt314.1 x0).bind fun t330 => (if t330 = true then ((berthlaw02_Same.f k bt325.1 x1).bind fun t331 => (berthlaw02_QuantAway.j2 k x0 x1 x5 (!t331))) else (berthlaw02_QuantAway.j2 k x0 x1 x5 true))) else (berthlaw02_QuantAway.j2 k x0 x1 x5 true)) else (berthlaw02_QuantAway.j2 k x0 x1 x5 true)))))))) else (if x7 = 28 then (some true) else (some (x7 == 27))))
def berthlaw02_QuantAway.j2 : Nat → List (S28) → List (S28) → List (S28) → Bool → Option (Bool)
  | 0, _, _, _, _ => none
  | k + 1, x0, x1, x5, x109 => if x109 = true then (some false) else (berthlaw02_QuantAway.l0 k x0 x1 x5 (x5.length : Int) 0)
def berthlaw02_QuantAway.l0 : Nat → List (S28) → List (S28) → List (S28) → Int → Int → Option (Bool)
  | 0, _, _, _, _, _ => none
  | k + 1, x0, x1, x110, x111, x112 => if x112 < x111 then (if 0 ≤ x112 then (if x112 < (x110.length : Int) then ((quant_Get.f k x0 ((rd_T28 x110 x112).f0)).bind fun t334 => ((quant_Get.f k x1 ((rd_T28 x110 x112).f0)).bind fun t335 => (if t334 < 0 then (some false) else (if t335 < 0 then (some false) else (if t334 > ((rd_T28 x110 x112).f1) then (some false) else (if (wrap64 (((rd_T28 x110 x112).f1) - t334)) = t335 then (berthlaw02_QuantAway.l0 k x0 x1 x110 x111 (wrap64 (x112 + 1))) else (some false))))))) else (none)) else (none)) else (some true)
end
def berthlaw02_QuantAway.f (k : Nat) (l0 : List (S28)) (l1 : List (S28)) : Option (Bool) := (berthlaw02_fixedSum.f k).bind fun t276 => (if t276 = true then ((berthlaw02_Copied.f l0).bind fun t277 => ((berthlaw02_Copied.f l1).bind fun t280 => ((quant_Add.f k t277 t280).bind fun bt283 => ((berthlaw02_Copied.f l1).bind fun t288 => ((berthlaw02_Copied.f l0).bind fun t291 => ((quant_Add.f k t288 t291).bind fun bt294 => ((berthlaw02_Copied.f l0).bind fun t299 => ((quant_Check.f k t299).bind fun t302 => (if t302 = 0 then ((berthlaw02_Copied.f l1).bind fun t303 => ((quant_Check.f k t303).bind fun t306 => (berthlaw02_QuantAway.j0 k l0 l1 bt283.1 bt283.2.2 bt294.1 bt294.2.2 (t306 != 0)))) else (berthlaw02_QuantAway.j0 k l0 l1 bt283.1 bt283.2.2 bt294.1 bt294.2.2 true)))))))))) else (some false))
theorem berthlaw02_QuantAway.mono_l : ∀ k, (∀ y0 y1 y2 y3 y4 y5 y6, LeO (berthlaw02_QuantAway.j0 k y0 y1 y2 y3 y4 y5 y6) (berthlaw02_QuantAway.j0 (k + 1) y0 y1 y2 y3 y4 y5 y6)) ∧ (∀ y0 y1 y2 y3 y4, LeO (berthlaw02_QuantAway.j1 k y0 y1 y2 y3 y4) (berthlaw02_QuantAway.j1 (k + 1) y0 y1 y2 y3 y4)) ∧ (∀ y0 y1 y2 y3, LeO (berthlaw02_QuantAway.j2 k y0 y1 y2 y3) (berthlaw02_QuantAway.j2 (k + 1) y0 y1 y2 y3)) ∧ (∀ y0 y1 y2 y3 y4, LeO (berthlaw02_QuantAway.l0 k y0 y1 y2 y3 y4) (berthlaw02_QuantAway.l0 (k + 1) y0 y1 y2 y3 y4))
  | 0 => ⟨fun _ _ _ _ _ _ _ r h => by simp [berthlaw02_QuantAway.j0] at h, fun _ _ _ _ _ r h => by simp [berthlaw02_QuantAway.j1] at h, fun _ _ _ _ r h => by simp [berthlaw02_QuantAway.j2] at h, fun _ _ _ _ _ r h => by simp [berthlaw02_QuantAway.l0] at h⟩
  | k + 1 => by
    obtain ⟨ih0, ih1, ih2, ih3⟩ := berthlaw02_QuantAway.mono_l k
    refine ⟨?_, ?_, ?_, ?_⟩
    · intro y0 y1 y2 y3 y4 y5 y6
      unfold berthlaw02_QuantAway.j0
      repeat' first
      | (with_reducible exact ih0 _ _ _ _ _ _ _)
      | (with_reducible exact ih1 _ _ _ _ _)
      | (with_reducible exact ih2 _ _ _ _)
      | (with_reducible exact ih3 _ _ _ _ _)
      | (with_reducible exact berthlaw02_Same.mono _ _ _)
      | (with_reducible exact berthlaw02_fixedSum.mono _)
      | (with_reducible exact quant_Add.mono _ _ _)
      | (with_reducible exact quant_Check.mono _ _)
      | (with_reducible exact quant_Get.mono _ _ _)
      | (with_reducible exact quant_Sub.mono _ _ _)
      | (with_reducible exact LeO.refl _)
      | (with_reducible exact LeO.none _)
      | (with_reducible refine LeO.ite ?_ ?_)
      | (with_reducible refine LeO.bind ?_ (fun _ => ?_))
      | exact ih0 _ _ _ _ _ _ _
      | exact ih1 _ _ _ _ _
      | exact ih2 _ _ _ _
      | exact ih3 _ _ _ _ _
      | exact berthlaw02_Same.mono _ _ _
      | exact berthlaw02_fixedSum.mono _
      | exact quant_Add.mono _ _ _
      | exact quant_Check.mono _ _
      | exact quant_Get.mono _ _ _
      | exact quant_Sub.mono _ _ _
      | exact LeO.none _
      | refine LeO.ite ?_ ?_
      | refine LeO.bind ?_ (fun _ => ?_)
    · intro y0 y1 y2 y3 y4
      unfold berthlaw02_QuantAway.j1
      repeat' first
      | (with_reducible exact ih0 _ _ _ _ _ _ _)
      | (with_reducible exact ih1 _ _ _ _ _)
      | (with_reducible exact ih2 _ _ _ _)
      | (with_reducible exact ih3 _ _ _ _ _)
      | (with_reducible exact berthlaw02_Same.mono _ _ _)
      | (with_reducible exact berthlaw02_fixedSum.mono _)
      | (with_reducible exact quant_Add.mono _ _ _)
      | (with_reducible exact quant_Check.mono _ _)
      | (with_reducible exact quant_Get.mono _ _ _)
      | (with_reducible exact quant_Sub.mono _ _ _)
      | (with_reducible exact LeO.refl _)
      | (with_reducible exact LeO.none _)
      | (with_reducible refine LeO.ite ?_ ?_)
      | (with_reducible refine LeO.bind ?_ (fun _ => ?_))
      | exact ih0 _ _ _ _ _ _ _
      | exact ih1 _ _ _ _ _
      | exact ih2 _ _ _ _
      | exact ih3 _ _ _ _ _
      | exact berthlaw02_Same.mono _ _ _
      | exact berthlaw02_fixedSum.mono _
      | exact quant_Add.mono _ _ _
      | exact quant_Check.mono _ _
      | exact quant_Get.mono _ _ _
      | exact quant_Sub.mono _ _ _
      | exact LeO.none _
      | refine LeO.ite ?_ ?_
      | refine LeO.bind ?_ (fun _ => ?_)
    · intro y0 y1 y2 y3
      unfold berthlaw02_QuantAway.j2
      repeat' first
      | (with_reducible exact ih0 _ _ _ _ _ _ _)
      | (with_reducible exact ih1 _ _ _ _ _)
      | (with_reducible exact ih2 _ _ _ _)
      | (with_reducible exact ih3 _ _ _ _ _)
      | (with_reducible exact berthlaw02_Same.mono _ _ _)
      | (with_reducible exact berthlaw02_fixedSum.mono _)
      | (with_reducible exact quant_Add.mono _ _ _)
      | (with_reducible exact quant_Check.mono _ _)
      | (with_reducible exact quant_Get.mono _ _ _)
      | (with_reducible exact quant_Sub.mono _ _ _)
      | (with_reducible exact LeO.refl _)
      | (with_reducible exact LeO.none _)
      | (with_reducible refine LeO.ite ?_ ?_)
      | (with_reducible refine LeO.bind ?_ (fun _ => ?_))
      | exact ih0 _ _ _ _ _ _ _
      | exact ih1 _ _ _ _ _
      | exact ih2 _ _ _ _
      | exact ih3 _ _ _ _ _
      | exact berthlaw02_Same.mono _ _ _
      | exact berthlaw02_fixedSum.mono _
      | exact quant_Add.mono _ _ _
      | exact quant_Check.mono _ _
      | exact quant_Get.mono _ _ _
      | exact quant_Sub.mono _ _ _
      | exact LeO.none _
      | refine LeO.ite ?_ ?_
      | refine LeO.bind ?_ (fun _ => ?_)
    · intro y0 y1 y2 y3 y4
      unfold berthlaw02_QuantAway.l0
      repeat' first
      | (with_reducible exact ih0 _ _ _ _ _ _ _)
      | (with_reducible exact ih1 _ _ _ _ _)
      | (with_reducible exact ih2 _ _ _ _)
      | (with_reducible exact ih3 _ _ _ _ _)
      | (with_reducible exact berthlaw02_Same.mono _ _ _)
      | (with_reducible exact berthlaw02_fixedSum.mono _)
      | (with_reducible exact quant_Add.mono _ _ _)
      | (with_reducible exact quant_Check.mono _ _)
      | (with_reducible exact quant_Get.mono _ _ _)
      | (with_reducible exact quant_Sub.mono _ _ _)
      | (with_reducible exact LeO.refl _)
      | (with_reducible exact LeO.none _)
      | (with_reducible refine LeO.ite ?_ ?_)
      | (with_reducible refine LeO.bind ?_ (fun _ => ?_))
      | exact ih0 _ _ _ _ _ _ _
      | exact ih1 _ _ _ _ _
      | exact ih2 _ _ _ _
      | exact ih3 _ _ _ _ _
      | exact berthlaw02_Same.mono _ _ _
      | exact berthlaw02_fixedSum.mono _
      | exact quant_Add.mono _ _ _
      | exact quant_Check.mono _ _
      | exact quant_Get.mono _ _ _
      | exact quant_Sub.mono _ _ _
      | exact LeO.none _
      | refine LeO.ite ?_ ?_
      | refine LeO.bind ?_ (fun _ => ?_)
theorem berthlaw02_QuantAway.mono : ∀ a0 a1 k, LeO (berthlaw02_QuantAway.f k a0 a1) (berthlaw02_QuantAway.f (k + 1) a0 a1) := by
  intro a0 a1 k
  obtain ⟨ih0, ih1, ih2, ih3⟩ := berthlaw02_QuantAway.mono_l k
  unfold berthlaw02_QuantAway.f
  repeat' first
      | (with_reducible exact ih0 _ _ _ _ _ _ _)
      | (with_reducible exact ih1 _ _ _ _ _)
      | (with_reducible exact ih2 _ _ _ _)
      | (with_reducible exact ih3 _ _ _ _ _)
      | (with_reducible exact berthlaw02_Same.mono _ _ _)
      | (with_reducible exact berthlaw02_fixedSum.mono _)
      | (with_reducible exact quant_Add.mono _ _ _)
      | (with_reducible exact quant_Check.mono _ _)
      | (with_reducible exact quant_Get.mono _ _ _)
      | (with_reducible exact quant_Sub.mono _ _ _)
      | (with_reducible exact LeO.refl _)
      | (with_reducible exact LeO.none _)
      | (with_reducible refine LeO.ite ?_ ?_)
      | (with_reducible refine LeO.bind ?_ (fun _ => ?_))
      | exact ih0 _ _ _ _ _ _ _
      | exact ih1 _ _ _ _ _
      | exact ih2 _ _ _ _
      | exact ih3 _ _ _ _ _
      | exact berthlaw02_Same.mono _ _ _
      | exact berthlaw02_fixedSum.mono _
      | exact quant_Add.mono _ _ _
      | exact quant_Check.mono _ _
      | exact quant_Get.mono _ _ _
      | exact quant_Sub.mono _ _ _
      | exact LeO.none _
      | refine LeO.ite ?_ ?_
      | refine LeO.bind ?_ (fun _ => ?_)
end Go.Proofs.Ytbibnendaddbhaa.All
