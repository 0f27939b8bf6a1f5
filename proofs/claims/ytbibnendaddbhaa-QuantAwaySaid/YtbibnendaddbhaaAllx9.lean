-- Written by a program of this session (ptx): walks of the translated functions, one after the other. Not trusted: Lean checks it.
import Derived.Test.YtbibnendaddbhaaAllx0
import Derived.Test.YtbibnendaddbhaaAllx2
import Derived.Test.YtbibnendaddbhaaAllx3
import Derived.Test.YtbibnendaddbhaaAllx8
namespace Go.Proofs.Ytbibnendaddbhaa.All
open Go.RowKit Go.Proofs.YtbibnendaddbhaaW.PrintWords Go.Proofs.YtbibnendaddbhaaW.PrintLast Go.Proofs.YtbibnendaddbhaaW.PrintMore
attribute [local go_sem] max2_int min2_int max_two min_two max_three min_three max_four min_four   -- for this text's walks alone
attribute [local go_sem] Go.Proofs.YtbibnendaddbhaaX.binOp_leq Go.Proofs.YtbibnendaddbhaaX.binOp_geq Go.Proofs.YtbibnendaddbhaaX.binOp_gtr
set_option linter.unusedVariables false
set_option linter.unusedSimpArgs false

/-! ### berthlaw02_QuantAway: function 7 -/
mutual
def berthlaw02_QuantAway.j0 : Nat → List (S28) → List (S28) → List (S28) → Int → List (S28) → Int → Bool → Option (Bool)
  | 0, _, _, _, _, _, _, _ => none
  | k + 1, x0, x1, x5, x7, x8, x10, x50 => if x50 = true then (if x7 = 0 then (some false) else (some (x10 != 0))) else (if x7 = x10 then ((berthlaw02_Same.f k x5 x8).bind fun t307 => (berthlaw02_QuantAway.j1 k x0 x1 x5 x7 (!t307))) else (berthlaw02_QuantAway.j1 k x0 x1 x5 x7 true))
def berthlaw02_QuantAway.j1 : Nat → List (S28) → List (S28) → List (S28) → Int → Bool → Option (Bool)
  | 0, _, _, _, _, _ => none
  | k + 1, x0, x1, x5, x7, x65 => if x65 = true then (some false) else (if x7 = 0 then ((berthlaw02_Copied.f x5).bind fun t308 => ((berthlaw02_Copied.f x1).bind fun t311 => ((quant_Sub.f k t308 t311).bind fun bt314 => ((berthlaw02_Copied.f x5).bind fun t319 => ((berthlaw02_Copied.f x0).bind fun t322 => ((quant_Sub.f k t319 t322).bind fun bt325 => (if bt314.2.2 = 0 then (if bt325.2.2 = 0 then ((berthlaw02_Same.f k bt314.1 x0).bind fun t330 => (if t330 = true then ((berthlaw02_Same.f k bt325.1 x1).bind fun t331 => (berthlaw02_QuantAway.j2 k x0 x1 x5 (!t331))) else (berthlaw02_QuantAway.j2 k x0 x1 x5 true))) else (berthlaw02_QuantAway.j2 k x0 x1 x5 true)) else (berthlaw02_QuantAway.j2 k x0 x1 x5 true)))))))) else (if x7 = 28 then (some true) else (some (x7 == 27))))
def berthlaw02_QuantAway.j2 : Nat → List (S28) → List (S28) → List (S28) → Bool → Option (Bool)
  | 0, _, _, _, _ => none
  | k + 1, x0, x1, x5, x109 => if x109 = true then (some false) else (berthlaw02_QuantAway.l0 k x0 x1 x5 (x5.length : Int) 0)
def berthlaw02_QuantAway.l0 : Nat → List (S28) → List (S28) → List (S28) → Int → Int → Option (Bool)
  | 0, _, _, _, _, _ => none
  | k + 1, x0, x1, x110, x111, x112 => if x112 < x111 then (if 0 ≤ x112 then (if x112 < (x110.length : Int) then ((quant_Get.f k x0 ((rd_T28 x110 x112).f0)).bind fun t334 => ((quant_Get.f k x1 ((rd_T28 x110 x112).f0)).bind fun t335 => (if t334 < 0 then (some false) else (if t335 < 0 then (some false) else (if t334 > ((rd_T28 x110 x112).f1) then (some false) else (if (wrap64 (((rd_T28 x110 x112).f1) - t334)) = t335 then (berthlaw02_QuantAway.l0 k x0 x1 x110 x111 (wrap64 (x112 + 1))) else (some false))))))) else (none)) else (none)) else (some true)
end
def berthlaw02_QuantAway.f (k : Nat) (l0 : List (S28)) (l1 : List (S28)) : Option (Bool) := (berthlaw02_fixedSum.f k).bind fun t276 => (if t276 = true then ((berthlaw02_Copied.f l0).bind fun t277 => ((berthlaw02_Copied.f l1).bind fun t280 => ((quant_Add.f k t277 t280).bind fun bt283 => ((berthlaw02_Copied.f l1).bind fun t288 => ((berthlaw02_Copied.f l0).bind fun t291 => ((quant_Add.f k t288 t291).bind fun bt294 => ((berthlaw02_Copied.f l0).bind fun t299 => ((quant_Check.f k t299).bind fun t302 => (if t302 = 0 then ((berthlaw02_Copied.f l1).bind fun t303 => ((quant_Check.f k t303).bind fun t306 => (berthlaw02_QuantAway.j0 k l0 l1 bt283.1 bt283.2.2 bt294.1 bt294.2.2 (t306 != 0)))) else (berthlaw02_QuantAway.j0 k l0 l1 bt283.1 bt283.2.2 bt294.1 bt294.2.2 true)))))))))) else (some false))
theorem berthlaw02_QuantAway.mono_l : ∀ k, (∀ y0 y1 y2 y3 y4 y5 y6, LeO (berthlaw02_QuantAway.j0 k y0 y1 y2 y3 y4 y5 y6) (berthlaw02_QuantAway.j0 (k + 1) y0 y1 y2 y3 y4 y5 y6)) ∧ (∀ y0 y1 y2 y3 y4, LeO (berthlaw02_QuantAway.j1 k y0 y1 y2 y3 y4) (berthlaw02_QuantAway.j1 (k + 1) y0 y1 y2 y3 y4)) ∧ (∀ y0 y1 y2 y3, LeO (berthlaw02_QuantAway.j2 k y0 y1 y2 y3) (berthlaw02_QuantAway.j2 (k + 1) y0 y1 y2 y3)) ∧ (∀ y0 y1 y2 y3 y4, LeO (berthlaw02_QuantAway.l0 k y0 y1 y2 y3 y4) (berthlaw02_QuantAway.l0 (k + 1) y0 y1 y2 y3 y4))
  | 0 => ⟨fun _ _ _ _ _ _ _ r h => by simp [berthlaw02_QuantAway.j0] at h, fun _ _ _ _ _ r h => by simp [berthlaw02_QuantAway.j1] at h, fun _ _ _ _ r h => by simp [berthlaw02_QuantAway.j2] at h, fun _ _ _ _ _ r h => by simp [berthlaw02_QuantAway.l0] at h⟩
  | k + 1 => by
    obtain ⟨ih0, ih1, ih2, ih3⟩ := berthlaw02_QuantAway.mono_l k
    refine ⟨?_, ?_, ?_, ?_⟩
    · intro y0 y1 y2 y3 y4 y5 y6
      unfold berthlaw02_QuantAway.j0
      repeat' first
      | (with_reducible exact ih0 _ _ _ _ _ _ _)
      | (with_reducible exact ih1 _ _ _ _ _)
      | (with_reducible exact ih2 _ _ _ _)
      | (with_reducible exact ih3 _ _ _ _ _)
      | (with_reducible exact berthlaw02_Same.mono _ _ _)
      | (with_reducible exact berthlaw02_fixedSum.mono _)
      | (with_reducible exact quant_Add.mono _ _ _)
      | (with_reducible exact quant_Check.mono _ _)
      | (with_reducible exact quant_Get.mono _ _ _)
      | (with_reducible exact quant_Sub.mono _ _ _)
      | (with_reducible exact LeO.refl _)
      | (with_reducible exact LeO.none _)
      | (with_reducible refine LeO.ite ?_ ?_)
      | (with_reducible refine LeO.bind ?_ (fun _ => ?_))
      | exact ih0 _ _ _ _ _ _ _
      | exact ih1 _ _ _ _ _
      | exact ih2 _ _ _ _
      | exact ih3 _ _ _ _ _
      | exact berthlaw02_Same.mono _ _ _
      | exact berthlaw02_fixedSum.mono _
      | exact quant_Add.mono _ _ _
      | exact quant_Check.mono _ _
      | exact quant_Get.mono _ _ _
      | exact quant_Sub.mono _ _ _
      | exact LeO.none _
      | refine LeO.ite ?_ ?_
      | refine LeO.bind ?_ (fun _ => ?_)
    · intro y0 y1 y2 y3 y4
      unfold berthlaw02_QuantAway.j1
      repeat' first
      | (with_reducible exact ih0 _ _ _ _ _ _ _)
      | (with_reducible exact ih1 _ _ _ _ _)
      | (with_reducible exact ih2 _ _ _ _)
      | (with_reducible exact ih3 _ _ _ _ _)
      | (with_reducible exact berthlaw02_Same.mono _ _ _)
      | (with_reducible exact berthlaw02_fixedSum.mono _)
      | (with_reducible exact quant_Add.mono _ _ _)
      | (with_reducible exact quant_Check.mono _ _)
      | (with_reducible exact quant_Get.mono _ _ _)
      | (with_reducible exact quant_Sub.mono _ _ _)
      | (with_reducible exact LeO.refl _)
      | (with_reducible exact LeO.none _)
      | (with_reducible refine LeO.ite ?_ ?_)
      | (with_reducible refine LeO.bind ?_ (fun _ => ?_))
      | exact ih0 _ _ _ _ _ _ _
      | exact ih1 _ _ _ _ _
      | exact ih2 _ _ _ _
      | exact ih3 _ _ _ _ _
      | exact berthlaw02_Same.mono _ _ _
      | exact berthlaw02_fixedSum.mono _
      | exact quant_Add.mono _ _ _
      | exact quant_Check.mono _ _
      | exact quant_Get.mono _ _ _
      | exact quant_Sub.mono _ _ _
      | exact LeO.none _
      | refine LeO.ite ?_ ?_
      | refine LeO.bind ?_ (fun _ => ?_)
    · intro y0 y1 y2 y3
      unfold berthlaw02_QuantAway.j2
      repeat' first
      | (with_reducible exact ih0 _ _ _ _ _ _ _)
      | (with_reducible exact ih1 _ _ _ _ _)
      | (with_reducible exact ih2 _ _ _ _)
      | (with_reducible exact ih3 _ _ _ _ _)
      | (with_reducible exact berthlaw02_Same.mono _ _ _)
      | (with_reducible exact berthlaw02_fixedSum.mono _)
      | (with_reducible exact quant_Add.mono _ _ _)
      | (with_reducible exact quant_Check.mono _ _)
      | (with_reducible exact quant_Get.mono _ _ _)
      | (with_reducible exact quant_Sub.mono _ _ _)
      | (with_reducible exact LeO.refl _)
      | (with_reducible exact LeO.none _)
      | (with_reducible refine LeO.ite ?_ ?_)
      | (with_reducible refine LeO.bind ?_ (fun _ => ?_))
      | exact ih0 _ _ _ _ _ _ _
      | exact ih1 _ _ _ _ _
      | exact ih2 _ _ _ _
      | exact ih3 _ _ _ _ _
      | exact berthlaw02_Same.mono _ _ _
      | exact berthlaw02_fixedSum.mono _
      | exact quant_Add.mono _ _ _
      | exact quant_Check.mono _ _
      | exact quant_Get.mono _ _ _
      | exact quant_Sub.mono _ _ _
      | exact LeO.none _
      | refine LeO.ite ?_ ?_
      | refine LeO.bind ?_ (fun _ => ?_)
    · intro y0 y1 y2 y3 y4
      unfold berthlaw02_QuantAway.l0
      repeat' first
      | (with_reducible exact ih0 _ _ _ _ _ _ _)
      | (with_reducible exact ih1 _ _ _ _ _)
      | (with_reducible exact ih2 _ _ _ _)
      | (with_reducible exact ih3 _ _ _ _ _)
      | (with_reducible exact berthlaw02_Same.mono _ _ _)
      | (with_reducible exact berthlaw02_fixedSum.mono _)
      | (with_reducible exact quant_Add.mono _ _ _)
      | (with_reducible exact quant_Check.mono _ _)
      | (with_reducible exact quant_Get.mono _ _ _)
      | (with_reducible exact quant_Sub.mono _ _ _)
      | (with_reducible exact LeO.refl _)
      | (with_reducible exact LeO.none _)
      | (with_reducible refine LeO.ite ?_ ?_)
      | (with_reducible refine LeO.bind ?_ (fun _ => ?_))
      | exact ih0 _ _ _ _ _ _ _
      | exact ih1 _ _ _ _ _
      | exact ih2 _ _ _ _
      | exact ih3 _ _ _ _ _
      | exact berthlaw02_Same.mono _ _ _
      | exact berthlaw02_fixedSum.mono _
      | exact quant_Add.mono _ _ _
      | exact quant_Check.mono _ _
      | exact quant_Get.mono _ _ _
      | exact quant_Sub.mono _ _ _
      | exact LeO.none _
      | refine LeO.ite ?_ ?_
      | refine LeO.bind ?_ (fun _ => ?_)
theorem berthlaw02_QuantAway.mono : ∀ a0 a1 k, LeO (berthlaw02_QuantAway.f k a0 a1) (berthlaw02_QuantAway.f (k + 1) a0 a1) := by
  intro a0 a1 k
  obtain ⟨ih0, ih1, ih2, ih3⟩ := berthlaw02_QuantAway.mono_l k
  unfold berthlaw02_QuantAway.f
  repeat' first
      | (with_reducible exact ih0 _ _ _ _ _ _ _)
      | (with_reducible exact ih1 _ _ _ _ _)
      | (with_reducible exact ih2 _ _ _ _)
      | (with_reducible exact ih3 _ _ _ _ _)
      | (with_reducible exact berthlaw02_Same.mono _ _ _)
      | (with_reducible exact berthlaw02_fixedSum.mono _)
      | (with_reducible exact quant_Add.mono _ _ _)
      | (with_reducible exact quant_Check.mono _ _)
      | (with_reducible exact quant_Get.mono _ _ _)
      | (with_reducible exact quant_Sub.mono _ _ _)
      | (with_reducible exact LeO.refl _)
      | (with_reducible exact LeO.none _)
      | (with_reducible refine LeO.ite ?_ ?_)
      | (with_reducible refine LeO.bind ?_ (fun _ => ?_))
      | exact ih0 _ _ _ _ _ _ _
      | exact ih1 _ _ _ _ _
      | exact ih2 _ _ _ _
      | exact ih3 _ _ _ _ _
      | exact berthlaw02_Same.mono _ _ _
      | exact berthlaw02_fixedSum.mono _
      | exact quant_Add.mono _ _ _
      | exact quant_Check.mono _ _
      | exact quant_Get.mono _ _ _
      | exact quant_Sub.mono _ _ _
      | exact LeO.none _
      | refine LeO.ite ?_ ?_
      | refine LeO.bind ?_ (fun _ => ?_)
def berthlaw02_QuantAway.T18 : Bool × List (List Nat × List Nat) := (true, [([], []), ([], []), ([1], [1]), ([0, 2], [0, 2]), ([], []), ([], []), ([5], [5]), ([4, 6, 3], [4, 6]), ([3, 7, 0, 1, 2, 3], [3]), ([7, 8, 0, 1, 2, 3, 4, 5, 6, 7, 8], [7])])
def berthlaw02_QuantAway.B18 : List Nat := [0, 0, 2, 7, 0, 0, 32, 127, 255, 511]
theorem berthlaw02_QuantAway.tab18 : rtab .any (opsOf Try.f7 18) = berthlaw02_QuantAway.T18 := by kernel_rfl
theorem berthlaw02_QuantAway.bits18 : waitsOk berthlaw02_QuantAway.T18.2 berthlaw02_QuantAway.B18 = true := by kernel_rfl
set_option maxHeartbeats 8000000 in
set_option maxRecDepth 100000 in
theorem berthlaw02_QuantAway.calls (k : Nat) (A0 : Option Addr) (c0 : Nat) (l0 : List (S28)) (A1 : Option Addr) (c1 : Nat) (l1 : List (S28)) (r : Bool) (w : World) (hr0 : Kd.C k28 w A0 l0.length l0) (hc0 : l0.length ≤ c0) (hr1 : Kd.C k28 w A1 l1.length l1) (hc1 : l1.length ≤ c1) (h : berthlaw02_QuantAway.f k l0 l1 = some r) :
    Calls Try.prog 7 #[.slice A0 l0.length c0, .slice A1 l1.length c1] w fun e w' => e = .returned (.bool r) ∧ Below w.heap.size w w' := by
  have hu28 := Try.underlying28
  have HR0 := Aside0.mk hr0
  have HC0 := Aside0.mk hc0
  clear hr0 hc0
  have HR1 := Aside0.mk hr1
  have HC1 := Aside0.mk hc1
  clear hr1 hc1
  have HB := Aside0.mk (Below.refl w.heap.size w)
  have H : ((berthlaw02_fixedSum.f k).bind fun t276 => (if t276 = true then ((berthlaw02_Copied.f l0).bind fun t277 => ((berthlaw02_Copied.f l1).bind fun t280 => ((quant_Add.f k t277 t280).bind fun bt283 => ((berthlaw02_Copied.f l1).bind fun t288 => ((berthlaw02_Copied.f l0).bind fun t291 => ((quant_Add.f k t288 t291).bind fun bt294 => ((berthlaw02_Copied.f l0).bind fun t299 => ((quant_Check.f k t299).bind fun t302 => (if t302 = 0 then ((berthlaw02_Copied.f l1).bind fun t303 => ((quant_Check.f k t303).bind fun t306 => (berthlaw02_QuantAway.j0 k l0 l1 bt283.1 bt283.2.2 bt294.1 bt294.2.2 (t306 != 0)))) else (berthlaw02_QuantAway.j0 k l0 l1 bt283.1 bt283.2.2 bt294.1 bt294.2.2 true)))))))))) else (some false))) = some r := h
  clear h
  replace H := Option.bind_eq_some_iff.mp H
  obtain ⟨t276, A30, H⟩ := H
  replace H : (if t276 = true then ((berthlaw02_Copied.f l0).bind fun t277 => ((berthlaw02_Copied.f l1).bind fun t280 => ((quant_Add.f k t277 t280).bind fun bt283 => ((berthlaw02_Copied.f l1).bind fun t288 => ((berthlaw02_Copied.f l0).bind fun t291 => ((quant_Add.f k t288 t291).bind fun bt294 => ((berthlaw02_Copied.f l0).bind fun t299 => ((quant_Check.f k t299).bind fun t302 => (if t302 = 0 then ((berthlaw02_Copied.f l1).bind fun t303 => ((quant_Check.f k t303).bind fun t306 => (berthlaw02_QuantAway.j0 k l0 l1 bt283.1 bt283.2.2 bt294.1 bt294.2.2 (t306 != 0)))) else (berthlaw02_QuantAway.j0 k l0 l1 bt283.1 bt283.2.2 bt294.1 bt294.2.2 true)))))))))) else (some false)) = some r := H
  have A3 := Aside0.mk A30
  clear A30
  by_cases c4 : t276 = true
  · subst c4
    have H1 : ((berthlaw02_Copied.f l0).bind fun t277 => ((berthlaw02_Copied.f l1).bind fun t280 => ((quant_Add.f k t277 t280).bind fun bt283 => ((berthlaw02_Copied.f l1).bind fun t288 => ((berthlaw02_Copied.f l0).bind fun t291 => ((quant_Add.f k t288 t291).bind fun bt294 => ((berthlaw02_Copied.f l0).bind fun t299 => ((quant_Check.f k t299).bind fun t302 => (if t302 = 0 then ((berthlaw02_Copied.f l1).bind fun t303 => ((quant_Check.f k t303).bind fun t306 => (berthlaw02_QuantAway.j0 k l0 l1 bt283.1 bt283.2.2 bt294.1 bt294.2.2 (t306 != 0)))) else (berthlaw02_QuantAway.j0 k l0 l1 bt283.1 bt283.2.2 bt294.1 bt294.2.2 true)))))))))) = some r := by rw [if_pos rfl] at H; exact H
    clear H
    have H := H1
    clear H1
    replace H := Option.bind_eq_some_iff.mp H
    obtain ⟨t277, A50, H⟩ := H
    replace H : ((berthlaw02_Copied.f l1).bind fun t280 => ((quant_Add.f k t277 t280).bind fun bt283 => ((berthlaw02_Copied.f l1).bind fun t288 => ((berthlaw02_Copied.f l0).bind fun t291 => ((quant_Add.f k t288 t291).bind fun bt294 => ((berthlaw02_Copied.f l0).bind fun t299 => ((quant_Check.f k t299).bind fun t302 => (if t302 = 0 then ((berthlaw02_Copied.f l1).bind fun t303 => ((quant_Check.f k t303).bind fun t306 => (berthlaw02_QuantAway.j0 k l0 l1 bt283.1 bt283.2.2 bt294.1 bt294.2.2 (t306 != 0)))) else (berthlaw02_QuantAway.j0 k l0 l1 bt283.1 bt283.2.2 bt294.1 bt294.2.2 true))))))))) = some r := H
    have A5 := Aside0.mk A50
    clear A50
    replace H := Option.bind_eq_some_iff.mp H
    obtain ⟨t280, A60, H⟩ := H
    replace H : ((quant_Add.f k t277 t280).bind fun bt283 => ((berthlaw02_Copied.f l1).bind fun t288 => ((berthlaw02_Copied.f l0).bind fun t291 => ((quant_Add.f k t288 t291).bind fun bt294 => ((berthlaw02_Copied.f l0).bind fun t299 => ((quant_Check.f k t299).bind fun t302 => (if t302 = 0 then ((berthlaw02_Copied.f l1).bind fun t303 => ((quant_Check.f k t303).bind fun t306 => (berthlaw02_QuantAway.j0 k l0 l1 bt283.1 bt283.2.2 bt294.1 bt294.2.2 (t306 != 0)))) else (berthlaw02_QuantAway.j0 k l0 l1 bt283.1 bt283.2.2 bt294.1 bt294.2.2 true)))))))) = some r := H
    have A6 := Aside0.mk A60
    clear A60
    replace H := Option.bind_eq_some_iff.mp H
    obtain ⟨⟨t283, t284, t285⟩, A70, H⟩ := H
    replace H : ((berthlaw02_Copied.f l1).bind fun t288 => ((berthlaw02_Copied.f l0).bind fun t291 => ((quant_Add.f k t288 t291).bind fun bt294 => ((berthlaw02_Copied.f l0).bind fun t299 => ((quant_Check.f k t299).bind fun t302 => (if t302 = 0 then ((berthlaw02_Copied.f l1).bind fun t303 => ((quant_Check.f k t303).bind fun t306 => (berthlaw02_QuantAway.j0 k l0 l1 t283 t285 bt294.1 bt294.2.2 (t306 != 0)))) else (berthlaw02_QuantAway.j0 k l0 l1 t283 t285 bt294.1 bt294.2.2 true))))))) = some r := H
    have A7 := Aside0.mk A70
    clear A70
    replace H := Option.bind_eq_some_iff.mp H
    obtain ⟨t288, A80, H⟩ := H
    replace H : ((berthlaw02_Copied.f l0).bind fun t291 => ((quant_Add.f k t288 t291).bind fun bt294 => ((berthlaw02_Copied.f l0).bind fun t299 => ((quant_Check.f k t299).bind fun t302 => (if t302 = 0 then ((berthlaw02_Copied.f l1).bind fun t303 => ((quant_Check.f k t303).bind fun t306 => (berthlaw02_QuantAway.j0 k l0 l1 t283 t285 bt294.1 bt294.2.2 (t306 != 0)))) else (berthlaw02_QuantAway.j0 k l0 l1 t283 t285 bt294.1 bt294.2.2 true)))))) = some r := H
    have A8 := Aside0.mk A80
    clear A80
    replace H := Option.bind_eq_some_iff.mp H
    obtain ⟨t291, A90, H⟩ := H
    replace H : ((quant_Add.f k t288 t291).bind fun bt294 => ((berthlaw02_Copied.f l0).bind fun t299 => ((quant_Check.f k t299).bind fun t302 => (if t302 = 0 then ((berthlaw02_Copied.f l1).bind fun t303 => ((quant_Check.f k t303).bind fun t306 => (berthlaw02_QuantAway.j0 k l0 l1 t283 t285 bt294.1 bt294.2.2 (t306 != 0)))) else (berthlaw02_QuantAway.j0 k l0 l1 t283 t285 bt294.1 bt294.2.2 true))))) = some r := H
    have A9 := Aside0.mk A90
    clear A90
    replace H := Option.bind_eq_some_iff.mp H
    obtain ⟨⟨t294, t295, t296⟩, A100, H⟩ := H
    replace H : ((berthlaw02_Copied.f l0).bind fun t299 => ((quant_Check.f k t299).bind fun t302 => (if t302 = 0 then ((berthlaw02_Copied.f l1).bind fun t303 => ((quant_Check.f k t303).bind fun t306 => (berthlaw02_QuantAway.j0 k l0 l1 t283 t285 t294 t296 (t306 != 0)))) else (berthlaw02_QuantAway.j0 k l0 l1 t283 t285 t294 t296 true)))) = some r := H
    have A10 := Aside0.mk A100
    clear A100
    have HC11 := Aside0.mk H
    clear H
    go_enter Try.func7, Try.ntmps7
    go_upto_region 5 with (first | ((with_reducible refine gate_callee (f := 19) rfl ?_); refine goesL_ (some 21) rfl rfl Try.func19 (by kernel_rfl) rfl #[] rfl (by (try simp only [List.map_toArray, List.map_cons, List.map_nil]); first | done | rfl | (simp only [List.length_drop, List.length_take]; rfl)) ?_; (with_reducible refine (berthlaw02_fixedSum.calls k  true _ A3.out).mono ?_); rintro e w12 ⟨rfl, hb⟩; refine ⟨_, rfl, ?_⟩; have n0_ := Aside0.mk (below_step (by repeat (first | (with_reducible first | exact HB.out | apply below_alloc | apply pw_below_drewN | apply below_drew1) | exact HB.out)) hb); clear HB; have HB := n0_; clear n0_; (try clear hb); (try clear hb2); (try clear hk); (try clear hi)) | ((with_reducible refine gate_callee (f := 10) rfl ?_); refine goesL_ (some 25) rfl rfl Try.func10 (by kernel_rfl) rfl #[.slice A0 l0.length c0] rfl (by (try simp only [List.map_toArray, List.map_cons, List.map_nil]); first | done | rfl | (simp only [List.length_drop, List.length_take]; rfl)) ?_; (with_reducible refine (berthlaw02_Copied.calls _ _ l0 t277 _ ?side1 ?side2 A5.out).mono ?_); (case side1 => repeat (first | exact (Kd.C_below HR0.out HB.out) | (with_reducible refine Kd.C_alloc ?_ _) | (with_reducible refine Kd.C_drewN ?_ _) | (with_reducible refine Kd.C_drew ?_))); (case side2 => exact HC0.out); rintro e w13 ⟨v278, rfl, ho0, hb⟩; refine ⟨_, rfl, ?_⟩; have n0_ := Aside0.mk (Kd.R_lower ho0 (below_size (by repeat (first | (with_reducible first | exact HB.out | apply below_alloc | apply pw_below_drewN | apply below_drew1) | exact HB.out)))); have n1_ := Aside0.mk (below_step (by repeat (first | (with_reducible first | exact HB.out | apply below_alloc | apply pw_below_drewN | apply below_drew1) | exact HB.out)) hb); clear HB; have HO279 := n0_; have HB := n1_; clear n0_ n1_; (try clear hb); (try clear hb2); (try clear hk); (try clear hi); (try clear ho0)) | ((with_reducible refine gate_callee (f := 10) rfl ?_); refine goesL_ (some 27) rfl rfl Try.func10 (by kernel_rfl) rfl #[.slice A1 l1.length c1] rfl (by (try simp only [List.map_toArray, List.map_cons, List.map_nil]); first | done | rfl | (simp only [List.length_drop, List.length_take]; rfl)) ?_; (with_reducible refine (berthlaw02_Copied.calls _ _ l1 t280 _ ?side1 ?side2 A6.out).mono ?_); (case side1 => repeat (first | exact (Kd.C_below HR1.out HB.out) | (with_reducible refine Kd.C_alloc ?_ _) | (with_reducible refine Kd.C_drewN ?_ _) | (with_reducible refine Kd.C_drew ?_))); (case side2 => exact HC1.out); rintro e w14 ⟨v281, rfl, ho0, hb⟩; refine ⟨_, rfl, ?_⟩; have n0_ := Aside0.mk (Kd.R_elder' (by (with_reducible repeat (first | apply Kd.R_alloc | apply Kd.R_drewN | apply Kd.R_drew)); exact HO279.out) (Kd.R_base ho0) hb); have n1_ := Aside0.mk (Kd.R_lower (Kd.R_new' ho0 (Kd.R_lt (by (with_reducible repeat (first | apply Kd.R_alloc | apply Kd.R_drewN | apply Kd.R_drew)); exact HO279.out))) (below_size (by repeat (first | (with_reducible first | exact HB.out | apply below_alloc | apply pw_below_drewN | apply below_drew1) | exact HB.out)))); have n2_ := Aside0.mk (below_step (by repeat (first | (with_reducible first | exact HB.out | apply below_alloc | apply pw_below_drewN | apply below_drew1) | exact HB.out)) hb); clear HO279; clear HB; have HO279 := n0_; have HO282 := n1_; have HB := n2_; clear n0_ n1_ n2_; (try clear hb); (try clear hb2); (try clear hk); (try clear hi); (try clear ho0); obtain ⟨Ao15, co15, eo15⟩ := Kd.R_slice HO279.out; subst eo15; obtain ⟨Ao16, co16, eo16⟩ := Kd.R_slice HO282.out; subst eo16) | ((with_reducible refine gate_callee (f := 20) rfl ?_); refine goesL_ (some 28) rfl rfl Try.func20 (by kernel_rfl) rfl #[.slice Ao15 t277.length co15, .slice Ao16 t280.length co16] rfl (by (try simp only [List.map_toArray, List.map_cons, List.map_nil]); first | done | rfl | (simp only [List.length_drop, List.length_take]; rfl)) ?_; (with_reducible refine (quant_Add.calls k _ _ t277 _ _ t280 t283 t284 t285 _ ?side1 ?side2 ?side3 ?side4 A7.out).mono ?_); (case side1 => repeat (first | exact (Kd.R_reads' HO279.out).2.2 | (with_reducible refine Kd.C_alloc ?_ _) | (with_reducible refine Kd.C_drewN ?_ _) | (with_reducible refine Kd.C_drew ?_))); (case side2 => exact (Kd.R_reads' HO279.out).2.1); (case side3 => repeat (first | exact (Kd.R_reads' HO282.out).2.2 | (with_reducible refine Kd.C_alloc ?_ _) | (with_reducible refine Kd.C_drewN ?_ _) | (with_reducible refine Kd.C_drew ?_))); (case side4 => exact (Kd.R_reads' HO282.out).2.1); rintro e w17 ⟨v286, rfl, ho0, hb⟩; refine ⟨_, rfl, ?_⟩; have n0_ := Aside0.mk (Kd.R_elder' (by (with_reducible repeat (first | apply Kd.R_alloc | apply Kd.R_drewN | apply Kd.R_drew)); exact HO279.out) (Kd.R_base ho0) hb); have n1_ := Aside0.mk (Kd.R_elder' (by (with_reducible repeat (first | apply Kd.R_alloc | apply Kd.R_drewN | apply Kd.R_drew)); exact HO282.out) (Kd.R_base ho0) hb); have n2_ := Aside0.mk (Kd.R_lower (Kd.R_new' (Kd.R_new' ho0 (Kd.R_lt (by (with_reducible repeat (first | apply Kd.R_alloc | apply Kd.R_drewN | apply Kd.R_drew)); exact HO279.out))) (Kd.R_lt (by (with_reducible repeat (first | apply Kd.R_alloc | apply Kd.R_drewN | apply Kd.R_drew)); exact HO282.out))) (below_size (by repeat (first | (with_reducible first | exact HB.out | apply below_alloc | apply pw_below_drewN | apply below_drew1) | exact HB.out)))); have n3_ := Aside0.mk (below_step (by repeat (first | (with_reducible first | exact HB.out | apply below_alloc | apply pw_below_drewN | apply below_drew1) | exact HB.out)) hb); clear HO279; clear HO282; clear HB; have HO279 := n0_; have HO282 := n1_; have HO287 := n2_; have HB := n3_; clear n0_ n1_ n2_ n3_; (try clear hb); (try clear hb2); (try clear hk); (try clear hi); (try clear ho0)) | ((with_reducible refine gate_callee (f := 10) rfl ?_); refine goesL_ (some 34) rfl rfl Try.func10 (by kernel_rfl) rfl #[.slice A1 l1.length c1] rfl (by (try simp only [List.map_toArray, List.map_cons, List.map_nil]); first | done | rfl | (simp only [List.length_drop, List.length_take]; rfl)) ?_; (with_reducible refine (berthlaw02_Copied.calls _ _ l1 t288 _ ?side1 ?side2 A8.out).mono ?_); (case side1 => repeat (first | exact (Kd.C_below HR1.out HB.out) | (with_reducible refine Kd.C_alloc ?_ _) | (with_reducible refine Kd.C_drewN ?_ _) | (with_reducible refine Kd.C_drew ?_))); (case side2 => exact HC1.out); rintro e w18 ⟨v289, rfl, ho0, hb⟩; refine ⟨_, rfl, ?_⟩; have n0_ := Aside0.mk (Kd.R_elder' (by (with_reducible repeat (first | apply Kd.R_alloc | apply Kd.R_drewN | apply Kd.R_drew)); exact HO279.out) (Kd.R_base ho0) hb); have n1_ := Aside0.mk (Kd.R_elder' (by (with_reducible repeat (first | apply Kd.R_alloc | apply Kd.R_drewN | apply Kd.R_drew)); exact HO282.out) (Kd.R_base ho0) hb); have n2_ := Aside0.mk (Kd.R_elder' (by (with_reducible repeat (first | apply Kd.R_alloc | apply Kd.R_drewN | apply Kd.R_drew)); exact HO287.out) (Kd.R_base ho0) hb); have n3_ := Aside0.mk (Kd.R_lower (Kd.R_new' (Kd.R_new' (Kd.R_new' ho0 (Kd.R_lt (by (with_reducible repeat (first | apply Kd.R_alloc | apply Kd.R_drewN | apply Kd.R_drew)); exact HO279.out))) (Kd.R_lt (by (with_reducible repeat (first | apply Kd.R_alloc | apply Kd.R_drewN | apply Kd.R_drew)); exact HO282.out))) (Kd.R_lt (by (with_reducible repeat (first | apply Kd.R_alloc | apply Kd.R_drewN | apply Kd.R_drew)); exact HO287.out))) (below_size (by repeat (first | (with_reducible first | exact HB.out | apply below_alloc | apply pw_below_drewN | apply below_drew1) | exact HB.out)))); have n4_ := Aside0.mk (below_step (by repeat (first | (with_reducible first | exact HB.out | apply below_alloc | apply pw_below_drewN | apply below_drew1) | exact HB.out)) hb); clear HO279; clear HO282; clear HO287; clear HB; have HO279 := n0_; have HO282 := n1_; have HO287 := n2_; have HO290 := n3_; have HB := n4_; clear n0_ n1_ n2_ n3_ n4_; (try clear hb); (try clear hb2); (try clear hk); (try clear hi); (try clear ho0)) | ((with_reducible refine gate_callee (f := 10) rfl ?_); refine goesL_ (some 36) rfl rfl Try.func10 (by kernel_rfl) rfl #[.slice A0 l0.length c0] rfl (by (try simp only [List.map_toArray, List.map_cons, List.map_nil]); first | done | rfl | (simp only [List.length_drop, List.length_take]; rfl)) ?_; (with_reducible refine (berthlaw02_Copied.calls _ _ l0 t291 _ ?side1 ?side2 A9.out).mono ?_); (case side1 => repeat (first | exact (Kd.C_below HR0.out HB.out) | (with_reducible refine Kd.C_alloc ?_ _) | (with_reducible refine Kd.C_drewN ?_ _) | (with_reducible refine Kd.C_drew ?_))); (case side2 => exact HC0.out); rintro e w19 ⟨v292, rfl, ho0, hb⟩; refine ⟨_, rfl, ?_⟩; have n0_ := Aside0.mk (Kd.R_elder' (by (with_reducible repeat (first | apply Kd.R_alloc | apply Kd.R_drewN | apply Kd.R_drew)); exact HO279.out) (Kd.R_base ho0) hb); have n1_ := Aside0.mk (Kd.R_elder' (by (with_reducible repeat (first | apply Kd.R_alloc | apply Kd.R_drewN | apply Kd.R_drew)); exact HO282.out) (Kd.R_base ho0) hb); have n2_ := Aside0.mk (Kd.R_elder' (by (with_reducible repeat (first | apply Kd.R_alloc | apply Kd.R_drewN | apply Kd.R_drew)); exact HO287.out) (Kd.R_base ho0) hb); have n3_ := Aside0.mk (Kd.R_elder' (by (with_reducible repeat (first | apply Kd.R_alloc | apply Kd.R_drewN | apply Kd.R_drew)); exact HO290.out) (Kd.R_base ho0) hb); have n4_ := Aside0.mk (Kd.R_lower (Kd.R_new' (Kd.R_new' (Kd.R_new' (Kd.R_new' ho0 (Kd.R_lt (by (with_reducible repeat (first | apply Kd.R_alloc | apply Kd.R_drewN | apply Kd.R_drew)); exact HO279.out))) (Kd.R_lt (by (with_reducible repeat (first | apply Kd.R_alloc | apply Kd.R_drewN | apply Kd.R_drew)); exact HO282.out))) (Kd.R_lt (by (with_reducible repeat (first | apply Kd.R_alloc | apply Kd.R_drewN | apply Kd.R_drew)); exact HO287.out))) (Kd.R_lt (by (with_reducible repeat (first | apply Kd.R_alloc | apply Kd.R_drewN | apply Kd.R_drew)); exact HO290.out))) (below_size (by repeat (first | (with_reducible first | exact HB.out | apply below_alloc | apply pw_below_drewN | apply below_drew1) | exact HB.out)))); have n5_ := Aside0.mk (below_step (by repeat (first | (with_reducible first | exact HB.out | apply below_alloc | apply pw_below_drewN | apply below_drew1) | exact HB.out)) hb); clear HO279; clear HO282; clear HO287; clear HO290; clear HB; have HO279 := n0_; have HO282 := n1_; have HO287 := n2_; have HO290 := n3_; have HO293 := n4_; have HB := n5_; clear n0_ n1_ n2_ n3_ n4_ n5_; (try clear hb); (try clear hb2); (try clear hk); (try clear hi); (try clear ho0); obtain ⟨Ao20, co20, eo20⟩ := Kd.R_slice HO290.out; subst eo20; obtain ⟨Ao21, co21, eo21⟩ := Kd.R_slice HO293.out; subst eo21) | ((with_reducible refine gate_callee (f := 20) rfl ?_); refine goesL_ (some 37) rfl rfl Try.func20 (by kernel_rfl) rfl #[.slice Ao20 t288.length co20, .slice Ao21 t291.length co21] rfl (by (try simp only [List.map_toArray, List.map_cons, List.map_nil]); first | done | rfl | (simp only [List.length_drop, List.length_take]; rfl)) ?_; (with_reducible refine (quant_Add.calls k _ _ t288 _ _ t291 t294 t295 t296 _ ?side1 ?side2 ?side3 ?side4 A10.out).mono ?_); (case side1 => repeat (first | exact (Kd.R_reads' HO290.out).2.2 | (with_reducible refine Kd.C_alloc ?_ _) | (with_reducible refine Kd.C_drewN ?_ _) | (with_reducible refine Kd.C_drew ?_))); (case side2 => exact (Kd.R_reads' HO290.out).2.1); (case side3 => repeat (first | exact (Kd.R_reads' HO293.out).2.2 | (with_reducible refine Kd.C_alloc ?_ _) | (with_reducible refine Kd.C_drewN ?_ _) | (with_reducible refine Kd.C_drew ?_))); (case side4 => exact (Kd.R_reads' HO293.out).2.1); rintro e w22 ⟨v297, rfl, ho0, hb⟩; refine ⟨_, rfl, ?_⟩; have n0_ := Aside0.mk (Kd.R_elder' (by (with_reducible repeat (first | apply Kd.R_alloc | apply Kd.R_drewN | apply Kd.R_drew)); exact HO279.out) (Kd.R_base ho0) hb); have n1_ := Aside0.mk (Kd.R_elder' (by (with_reducible repeat (first | apply Kd.R_alloc | apply Kd.R_drewN | apply Kd.R_drew)); exact HO282.out) (Kd.R_base ho0) hb); have n2_ := Aside0.mk (Kd.R_elder' (by (with_reducible repeat (first | apply Kd.R_alloc | apply Kd.R_drewN | apply Kd.R_drew)); exact HO287.out) (Kd.R_base ho0) hb); have n3_ := Aside0.mk (Kd.R_elder' (by (with_reducible repeat (first | apply Kd.R_alloc | apply Kd.R_drewN | apply Kd.R_drew)); exact HO290.out) (Kd.R_base ho0) hb); have n4_ := Aside0.mk (Kd.R_elder' (by (with_reducible repeat (first | apply Kd.R_alloc | apply Kd.R_drewN | apply Kd.R_drew)); exact HO293.out) (Kd.R_base ho0) hb); have n5_ := Aside0.mk (Kd.R_lower (Kd.R_new' (Kd.R_new' (Kd.R_new' (Kd.R_new' (Kd.R_new' ho0 (Kd.R_lt (by (with_reducible repeat (first | apply Kd.R_alloc | apply Kd.R_drewN | apply Kd.R_drew)); exact HO279.out))) (Kd.R_lt (by (with_reducible repeat (first | apply Kd.R_alloc | apply Kd.R_drewN | apply Kd.R_drew)); exact HO282.out))) (Kd.R_lt (by (with_reducible repeat (first | apply Kd.R_alloc | apply Kd.R_drewN | apply Kd.R_drew)); exact HO287.out))) (Kd.R_lt (by (with_reducible repeat (first | apply Kd.R_alloc | apply Kd.R_drewN | apply Kd.R_drew)); exact HO290.out))) (Kd.R_lt (by (with_reducible repeat (first | apply Kd.R_alloc | apply Kd.R_drewN | apply Kd.R_drew)); exact HO293.out))) (below_size (by repeat (first | (with_reducible first | exact HB.out | apply below_alloc | apply pw_below_drewN | apply below_drew1) | exact HB.out)))); have n6_ := Aside0.mk (below_step (by repeat (first | (with_reducible first | exact HB.out | apply below_alloc | apply pw_below_drewN | apply below_drew1) | exact HB.out)) hb); clear HO279; clear HO282; clear HO287; clear HO290; clear HO293; clear HB; have HO279 := n0_; have HO282 := n1_; have HO287 := n2_; have HO290 := n3_; have HO293 := n4_; have HO298 := n5_; have HB := n6_; clear n0_ n1_ n2_ n3_ n4_ n5_ n6_; (try clear hb); (try clear hb2); (try clear hk); (try clear hi); (try clear ho0)))
    (try simp only [Act.put, List.setIfInBounds_toArray, List.set_cons_zero, List.set_cons_succ])
    go_cut [50] (fun v50 wc => ∃ (kq : Nat) (x50_10 : Bool), v50 = .bool x50_10 ∧ Aside0 (berthlaw02_QuantAway.j0 kq l0 l1 t283 t285 t294 t296 x50_10 = some r) ∧ Aside0 (kq ≤ k) ∧ Aside0 (Kd.R k28 28 wc w.heap.size (fun k_ => some k_ ≠ (v297 : Value).ownBlock) v286 t283) ∧ Aside0 (Kd.R k28 28 wc w.heap.size (fun k_ => some k_ ≠ (v286 : Value).ownBlock) v297 t294) ∧ Aside0 (Below w.heap.size w wc))
    case first =>
      have H := HC11.out
      clear HC11
      replace H := Option.bind_eq_some_iff.mp H
      obtain ⟨t299, A230, H⟩ := H
      replace H : ((quant_Check.f k t299).bind fun t302 => (if t302 = 0 then ((berthlaw02_Copied.f l1).bind fun t303 => ((quant_Check.f k t303).bind fun t306 => (berthlaw02_QuantAway.j0 k l0 l1 t283 t285 t294 t296 (t306 != 0)))) else (berthlaw02_QuantAway.j0 k l0 l1 t283 t285 t294 t296 true))) = some r := H
      have A23 := Aside0.mk A230
      clear A230
      replace H := Option.bind_eq_some_iff.mp H
      obtain ⟨t302, A240, H⟩ := H
      replace H : (if t302 = 0 then ((berthlaw02_Copied.f l1).bind fun t303 => ((quant_Check.f k t303).bind fun t306 => (berthlaw02_QuantAway.j0 k l0 l1 t283 t285 t294 t296 (t306 != 0)))) else (berthlaw02_QuantAway.j0 k l0 l1 t283 t285 t294 t296 true)) = some r := H
      have A24 := Aside0.mk A240
      clear A240
      by_cases c25 : t302 = 0
      · rw [if_pos c25] at H
        have c25b0 : (t302 == 0) = true := beq_iff_eq.mpr c25
        have c25b1 : (t302 != 0) = false := bne_eq_false_iff_eq.mpr c25
        clear c25
        (first | rw [c25b0] | (simp only [i64_w, i32_w]; rw [c25b0]) | skip)
        replace H := Option.bind_eq_some_iff.mp H
        obtain ⟨t303, A260, H⟩ := H
        replace H : ((quant_Check.f k t303).bind fun t306 => (berthlaw02_QuantAway.j0 k l0 l1 t283 t285 t294 t296 (t306 != 0))) = some r := H
        have A26 := Aside0.mk A260
        clear A260
        replace H := Option.bind_eq_some_iff.mp H
        obtain ⟨t306, A270, H⟩ := H
        replace H : (berthlaw02_QuantAway.j0 k l0 l1 t283 t285 t294 t296 (t306 != 0)) = some r := H
        have A27 := Aside0.mk A270
        clear A270
        have H' := Aside0.mk H
        clear H
        go_wp2_with (first | ((with_reducible refine gate_callee (f := 10) rfl ?_); refine goesL_ (some 42) rfl rfl Try.func10 (by kernel_rfl) rfl #[.slice A0 l0.length c0] rfl (by (try simp only [List.map_toArray, List.map_cons, List.map_nil]); first | done | rfl | (simp only [List.length_drop, List.length_take]; rfl)) ?_; (with_reducible refine (berthlaw02_Copied.calls _ _ l0 t299 _ ?side1 ?side2 A23.out).mono ?_); (case side1 => repeat (first | exact (Kd.C_below HR0.out HB.out) | (with_reducible refine Kd.C_alloc ?_ _) | (with_reducible refine Kd.C_drewN ?_ _) | (with_reducible refine Kd.C_drew ?_))); (case side2 => exact HC0.out); rintro e w28 ⟨v300, rfl, ho0, hb⟩; refine ⟨_, rfl, ?_⟩; have n0_ := Aside0.mk (Kd.R_elder' (by (with_reducible repeat (first | apply Kd.R_alloc | apply Kd.R_drewN | apply Kd.R_drew)); exact HO279.out) (Kd.R_base ho0) hb); have n1_ := Aside0.mk (Kd.R_elder' (by (with_reducible repeat (first | apply Kd.R_alloc | apply Kd.R_drewN | apply Kd.R_drew)); exact HO282.out) (Kd.R_base ho0) hb); have n2_ := Aside0.mk (Kd.R_elder' (by (with_reducible repeat (first | apply Kd.R_alloc | apply Kd.R_drewN | apply Kd.R_drew)); exact HO287.out) (Kd.R_base ho0) hb); have n3_ := Aside0.mk (Kd.R_elder' (by (with_reducible repeat (first | apply Kd.R_alloc | apply Kd.R_drewN | apply Kd.R_drew)); exact HO290.out) (Kd.R_base ho0) hb); have n4_ := Aside0.mk (Kd.R_elder' (by (with_reducible repeat (first | apply Kd.R_alloc | apply Kd.R_drewN | apply Kd.R_drew)); exact HO293.out) (Kd.R_base ho0) hb); have n5_ := Aside0.mk (Kd.R_elder' (by (with_reducible repeat (first | apply Kd.R_alloc | apply Kd.R_drewN | apply Kd.R_drew)); exact HO298.out) (Kd.R_base ho0) hb); have n6_ := Aside0.mk (Kd.R_lower (Kd.R_new' (Kd.R_new' (Kd.R_new' (Kd.R_new' (Kd.R_new' (Kd.R_new' ho0 (Kd.R_lt (by (with_reducible repeat (first | apply Kd.R_alloc | apply Kd.R_drewN | apply Kd.R_drew)); exact HO279.out))) (Kd.R_lt (by (with_reducible repeat (first | apply Kd.R_alloc | apply Kd.R_drewN | apply Kd.R_drew)); exact HO282.out))) (Kd.R_lt (by (with_reducible repeat (first | apply Kd.R_alloc | apply Kd.R_drewN | apply Kd.R_drew)); exact HO287.out))) (Kd.R_lt (by (with_reducible repeat (first | apply Kd.R_alloc | apply Kd.R_drewN | apply Kd.R_drew)); exact HO290.out))) (Kd.R_lt (by (with_reducible repeat (first | apply Kd.R_alloc | apply Kd.R_drewN | apply Kd.R_drew)); exact HO293.out))) (Kd.R_lt (by (with_reducible repeat (first | apply Kd.R_alloc | apply Kd.R_drewN | apply Kd.R_drew)); exact HO298.out))) (below_size (by repeat (first | (with_reducible first | exact HB.out | apply below_alloc | apply pw_below_drewN | apply below_drew1) | exact HB.out)))); have n7_ := Aside0.mk (below_step (by repeat (first | (with_reducible first | exact HB.out | apply below_alloc | apply pw_below_drewN | apply below_drew1) | exact HB.out)) hb); clear HO279; clear HO282; clear HO287; clear HO290; clear HO293; clear HO298; clear HB; have HO279 := n0_; have HO282 := n1_; have HO287 := n2_; have HO290 := n3_; have HO293 := n4_; have HO298 := n5_; have HO301 := n6_; have HB := n7_; clear n0_ n1_ n2_ n3_ n4_ n5_ n6_ n7_; (try clear hb); (try clear hb2); (try clear hk); (try clear hi); (try clear ho0); obtain ⟨Ao29, co29, eo29⟩ := Kd.R_slice HO301.out; subst eo29) | ((with_reducible refine gate_callee (f := 11) rfl ?_); refine goesL_ (some 43) rfl rfl Try.func11 (by kernel_rfl) rfl #[.slice Ao29 t299.length co29] rfl (by (try simp only [List.map_toArray, List.map_cons, List.map_nil]); first | done | rfl | (simp only [List.length_drop, List.length_take]; rfl)) ?_; (with_reducible refine (quant_Check.calls k _ _ t299 t302 _ ?side1 ?side2 A24.out).mono ?_); (case side1 => repeat (first | exact (Kd.R_reads' HO301.out).2.2 | (with_reducible refine Kd.C_alloc ?_ _) | (with_reducible refine Kd.C_drewN ?_ _) | (with_reducible refine Kd.C_drew ?_))); (case side2 => exact (Kd.R_reads' HO301.out).2.1); rintro e w30 ⟨rfl, hb⟩; refine ⟨_, rfl, ?_⟩; have n0_ := Aside0.mk (Kd.R_below (by (with_reducible repeat (first | apply Kd.R_alloc | apply Kd.R_drewN | apply Kd.R_drew)); exact HO279.out) hb); have n1_ := Aside0.mk (Kd.R_below (by (with_reducible repeat (first | apply Kd.R_alloc | apply Kd.R_drewN | apply Kd.R_drew)); exact HO282.out) hb); have n2_ := Aside0.mk (Kd.R_below (by (with_reducible repeat (first | apply Kd.R_alloc | apply Kd.R_drewN | apply Kd.R_drew)); exact HO287.out) hb); have n3_ := Aside0.mk (Kd.R_below (by (with_reducible repeat (first | apply Kd.R_alloc | apply Kd.R_drewN | apply Kd.R_drew)); exact HO290.out) hb); have n4_ := Aside0.mk (Kd.R_below (by (with_reducible repeat (first | apply Kd.R_alloc | apply Kd.R_drewN | apply Kd.R_drew)); exact HO293.out) hb); have n5_ := Aside0.mk (Kd.R_below (by (with_reducible repeat (first | apply Kd.R_alloc | apply Kd.R_drewN | apply Kd.R_drew)); exact HO298.out) hb); have n6_ := Aside0.mk (Kd.R_below (by (with_reducible repeat (first | apply Kd.R_alloc | apply Kd.R_drewN | apply Kd.R_drew)); exact HO301.out) hb); have n7_ := Aside0.mk (below_step (by repeat (first | (with_reducible first | exact HB.out | apply below_alloc | apply pw_below_drewN | apply below_drew1) | exact HB.out)) hb); clear HO279; clear HO282; clear HO287; clear HO290; clear HO293; clear HO298; clear HO301; clear HB; have HO279 := n0_; have HO282 := n1_; have HO287 := n2_; have HO290 := n3_; have HO293 := n4_; have HO298 := n5_; have HO301 := n6_; have HB := n7_; clear n0_ n1_ n2_ n3_ n4_ n5_ n6_ n7_; (try clear hb); (try clear hb2); (try clear hk); (try clear hi)) | (go_at_call 10; (with_reducible refine (berthlaw02_Copied.calls _ _ l1 t303 _ ?side1 ?side2 A26.out).mono ?_); (case side1 => repeat (first | exact (Kd.C_below HR1.out HB.out) | (with_reducible refine Kd.C_alloc ?_ _) | (with_reducible refine Kd.C_drewN ?_ _) | (with_reducible refine Kd.C_drew ?_))); (case side2 => exact HC1.out); rintro e w31 ⟨v304, rfl, ho0, hb⟩; have n0_ := Aside0.mk (Kd.R_elder' (by (with_reducible repeat (first | apply Kd.R_alloc | apply Kd.R_drewN | apply Kd.R_drew)); exact HO279.out) (Kd.R_base ho0) hb); have n1_ := Aside0.mk (Kd.R_elder' (by (with_reducible repeat (first | apply Kd.R_alloc | apply Kd.R_drewN | apply Kd.R_drew)); exact HO282.out) (Kd.R_base ho0) hb); have n2_ := Aside0.mk (Kd.R_elder' (by (with_reducible repeat (first | apply Kd.R_alloc | apply Kd.R_drewN | apply Kd.R_drew)); exact HO287.out) (Kd.R_base ho0) hb); have n3_ := Aside0.mk (Kd.R_elder' (by (with_reducible repeat (first | apply Kd.R_alloc | apply Kd.R_drewN | apply Kd.R_drew)); exact HO290.out) (Kd.R_base ho0) hb); have n4_ := Aside0.mk (Kd.R_elder' (by (with_reducible repeat (first | apply Kd.R_alloc | apply Kd.R_drewN | apply Kd.R_drew)); exact HO293.out) (Kd.R_base ho0) hb); have n5_ := Aside0.mk (Kd.R_elder' (by (with_reducible repeat (first | apply Kd.R_alloc | apply Kd.R_drewN | apply Kd.R_drew)); exact HO298.out) (Kd.R_base ho0) hb); have n6_ := Aside0.mk (Kd.R_elder' (by (with_reducible repeat (first | apply Kd.R_alloc | apply Kd.R_drewN | apply Kd.R_drew)); exact HO301.out) (Kd.R_base ho0) hb); have n7_ := Aside0.mk (Kd.R_lower (Kd.R_new' (Kd.R_new' (Kd.R_new' (Kd.R_new' (Kd.R_new' (Kd.R_new' (Kd.R_new' ho0 (Kd.R_lt (by (with_reducible repeat (first | apply Kd.R_alloc | apply Kd.R_drewN | apply Kd.R_drew)); exact HO279.out))) (Kd.R_lt (by (with_reducible repeat (first | apply Kd.R_alloc | apply Kd.R_drewN | apply Kd.R_drew)); exact HO282.out))) (Kd.R_lt (by (with_reducible repeat (first | apply Kd.R_alloc | apply Kd.R_drewN | apply Kd.R_drew)); exact HO287.out))) (Kd.R_lt (by (with_reducible repeat (first | apply Kd.R_alloc | apply Kd.R_drewN | apply Kd.R_drew)); exact HO290.out))) (Kd.R_lt (by (with_reducible repeat (first | apply Kd.R_alloc | apply Kd.R_drewN | apply Kd.R_drew)); exact HO293.out))) (Kd.R_lt (by (with_reducible repeat (first | apply Kd.R_alloc | apply Kd.R_drewN | apply Kd.R_drew)); exact HO298.out))) (Kd.R_lt (by (with_reducible repeat (first | apply Kd.R_alloc | apply Kd.R_drewN | apply Kd.R_drew)); exact HO301.out))) (below_size (by repeat (first | (with_reducible first | exact HB.out | apply below_alloc | apply pw_below_drewN | apply below_drew1) | exact HB.out)))); have n8_ := Aside0.mk (below_step (by repeat (first | (with_reducible first | exact HB.out | apply below_alloc | apply pw_below_drewN | apply below_drew1) | exact HB.out)) hb); clear HO279; clear HO282; clear HO287; clear HO290; clear HO293; clear HO298; clear HO301; clear HB; have HO279 := n0_; have HO282 := n1_; have HO287 := n2_; have HO290 := n3_; have HO293 := n4_; have HO298 := n5_; have HO301 := n6_; have HO305 := n7_; have HB := n8_; clear n0_ n1_ n2_ n3_ n4_ n5_ n6_ n7_ n8_; (try clear hb); (try clear hb2); (try clear hk); (try clear hi); (try clear ho0); obtain ⟨Ao32, co32, eo32⟩ := Kd.R_slice HO305.out; subst eo32) | (go_at_call 11; (with_reducible refine (quant_Check.calls k _ _ t303 t306 _ ?side1 ?side2 A27.out).mono ?_); (case side1 => repeat (first | exact (Kd.R_reads' HO305.out).2.2 | (with_reducible refine Kd.C_alloc ?_ _) | (with_reducible refine Kd.C_drewN ?_ _) | (with_reducible refine Kd.C_drew ?_))); (case side2 => exact (Kd.R_reads' HO305.out).2.1); rintro e w33 ⟨rfl, hb⟩; have n0_ := Aside0.mk (Kd.R_below (by (with_reducible repeat (first | apply Kd.R_alloc | apply Kd.R_drewN | apply Kd.R_drew)); exact HO279.out) hb); have n1_ := Aside0.mk (Kd.R_below (by (with_reducible repeat (first | apply Kd.R_alloc | apply Kd.R_drewN | apply Kd.R_drew)); exact HO282.out) hb); have n2_ := Aside0.mk (Kd.R_below (by (with_reducible repeat (first | apply Kd.R_alloc | apply Kd.R_drewN | apply Kd.R_drew)); exact HO287.out) hb); have n3_ := Aside0.mk (Kd.R_below (by (with_reducible repeat (first | apply Kd.R_alloc | apply Kd.R_drewN | apply Kd.R_drew)); exact HO290.out) hb); have n4_ := Aside0.mk (Kd.R_below (by (with_reducible repeat (first | apply Kd.R_alloc | apply Kd.R_drewN | apply Kd.R_drew)); exact HO293.out) hb); have n5_ := Aside0.mk (Kd.R_below (by (with_reducible repeat (first | apply Kd.R_alloc | apply Kd.R_drewN | apply Kd.R_drew)); exact HO298.out) hb); have n6_ := Aside0.mk (Kd.R_below (by (with_reducible repeat (first | apply Kd.R_alloc | apply Kd.R_drewN | apply Kd.R_drew)); exact HO301.out) hb); have n7_ := Aside0.mk (Kd.R_below (by (with_reducible repeat (first | apply Kd.R_alloc | apply Kd.R_drewN | apply Kd.R_drew)); exact HO305.out) hb); have n8_ := Aside0.mk (below_step (by repeat (first | (with_reducible first | exact HB.out | apply below_alloc | apply pw_below_drewN | apply below_drew1) | exact HB.out)) hb); clear HO279; clear HO282; clear HO287; clear HO290; clear HO293; clear HO298; clear HO301; clear HO305; clear HB; have HO279 := n0_; have HO282 := n1_; have HO287 := n2_; have HO290 := n3_; have HO293 := n4_; have HO298 := n5_; have HO301 := n6_; have HO305 := n7_; have HB := n8_; clear n0_ n1_ n2_ n3_ n4_ n5_ n6_ n7_ n8_; (try clear hb); (try clear hb2); (try clear hk); (try clear hi)))
        go_meet
        case rel => exact ⟨_, ((t306 != 0)), (by first | rfl | (simp; done) | (simp [*]; done) | (simp only [i64_w]; done) | (simp [i64_w, Int.tdiv_eq_ediv_of_nonneg]; done)), H', ⟨by first | omega | exact Nat.le_refl _⟩, ⟨by (with_reducible repeat (first | apply Kd.R_alloc | apply Kd.R_drewN | apply Kd.R_drew)); exact Kd.R_mono HO287.out (fun _ hk => hk.1.1.2)⟩, ⟨by (with_reducible repeat (first | apply Kd.R_alloc | apply Kd.R_drewN | apply Kd.R_drew)); exact Kd.R_mono HO298.out (fun _ hk => hk.1.1.1.1.2)⟩, ⟨by repeat (first | (with_reducible first | exact HB.out | apply below_alloc | apply pw_below_drewN | apply below_drew1) | exact HB.out)⟩⟩
      · rw [if_neg c25] at H
        have c25b0 : (t302 == 0) = false := beq_eq_false_iff_ne.mpr c25
        have c25b1 : (t302 != 0) = true := bne_iff_ne.mpr c25
        (first | rw [c25b0] | (simp only [i64_w, i32_w]; rw [c25b0]) | skip)
        have H' := Aside0.mk H
        clear H
        go_wp2_with (first | ((with_reducible refine gate_callee (f := 10) rfl ?_); refine goesL_ (some 42) rfl rfl Try.func10 (by kernel_rfl) rfl #[.slice A0 l0.length c0] rfl (by (try simp only [List.map_toArray, List.map_cons, List.map_nil]); first | done | rfl | (simp only [List.length_drop, List.length_take]; rfl)) ?_; (with_reducible refine (berthlaw02_Copied.calls _ _ l0 t299 _ ?side1 ?side2 A23.out).mono ?_); (case side1 => repeat (first | exact (Kd.C_below HR0.out HB.out) | (with_reducible refine Kd.C_alloc ?_ _) | (with_reducible refine Kd.C_drewN ?_ _) | (with_reducible refine Kd.C_drew ?_))); (case side2 => exact HC0.out); rintro e w34 ⟨v300, rfl, ho0, hb⟩; refine ⟨_, rfl, ?_⟩; have n0_ := Aside0.mk (Kd.R_elder' (by (with_reducible repeat (first | apply Kd.R_alloc | apply Kd.R_drewN | apply Kd.R_drew)); exact HO279.out) (Kd.R_base ho0) hb); have n1_ := Aside0.mk (Kd.R_elder' (by (with_reducible repeat (first | apply Kd.R_alloc | apply Kd.R_drewN | apply Kd.R_drew)); exact HO282.out) (Kd.R_base ho0) hb); have n2_ := Aside0.mk (Kd.R_elder' (by (with_reducible repeat (first | apply Kd.R_alloc | apply Kd.R_drewN | apply Kd.R_drew)); exact HO287.out) (Kd.R_base ho0) hb); have n3_ := Aside0.mk (Kd.R_elder' (by (with_reducible repeat (first | apply Kd.R_alloc | apply Kd.R_drewN | apply Kd.R_drew)); exact HO290.out) (Kd.R_base ho0) hb); have n4_ := Aside0.mk (Kd.R_elder' (by (with_reducible repeat (first | apply Kd.R_alloc | apply Kd.R_drewN | apply Kd.R_drew)); exact HO293.out) (Kd.R_base ho0) hb); have n5_ := Aside0.mk (Kd.R_elder' (by (with_reducible repeat (first | apply Kd.R_alloc | apply Kd.R_drewN | apply Kd.R_drew)); exact HO298.out) (Kd.R_base ho0) hb); have n6_ := Aside0.mk (Kd.R_lower (Kd.R_new' (Kd.R_new' (Kd.R_new' (Kd.R_new' (Kd.R_new' (Kd.R_new' ho0 (Kd.R_lt (by (with_reducible repeat (first | apply Kd.R_alloc | apply Kd.R_drewN | apply Kd.R_drew)); exact HO279.out))) (Kd.R_lt (by (with_reducible repeat (first | apply Kd.R_alloc | apply Kd.R_drewN | apply Kd.R_drew)); exact HO282.out))) (Kd.R_lt (by (with_reducible repeat (first | apply Kd.R_alloc | apply Kd.R_drewN | apply Kd.R_drew)); exact HO287.out))) (Kd.R_lt (by (with_reducible repeat (first | apply Kd.R_alloc | apply Kd.R_drewN | apply Kd.R_drew)); exact HO290.out))) (Kd.R_lt (by (with_reducible repeat (first | apply Kd.R_alloc | apply Kd.R_drewN | apply Kd.R_drew)); exact HO293.out))) (Kd.R_lt (by (with_reducible repeat (first | apply Kd.R_alloc | apply Kd.R_drewN | apply Kd.R_drew)); exact HO298.out))) (below_size (by repeat (first | (with_reducible first | exact HB.out | apply below_alloc | apply pw_below_drewN | apply below_drew1) | exact HB.out)))); have n7_ := Aside0.mk (below_step (by repeat (first | (with_reducible first | exact HB.out | apply below_alloc | apply pw_below_drewN | apply below_drew1) | exact HB.out)) hb); clear HO279; clear HO282; clear HO287; clear HO290; clear HO293; clear HO298; clear HB; have HO279 := n0_; have HO282 := n1_; have HO287 := n2_; have HO290 := n3_; have HO293 := n4_; have HO298 := n5_; have HO301 := n6_; have HB := n7_; clear n0_ n1_ n2_ n3_ n4_ n5_ n6_ n7_; (try clear hb); (try clear hb2); (try clear hk); (try clear hi); (try clear ho0); obtain ⟨Ao35, co35, eo35⟩ := Kd.R_slice HO301.out; subst eo35) | ((with_reducible refine gate_callee (f := 11) rfl ?_); refine goesL_ (some 43) rfl rfl Try.func11 (by kernel_rfl) rfl #[.slice Ao35 t299.length co35] rfl (by (try simp only [List.map_toArray, List.map_cons, List.map_nil]); first | done | rfl | (simp only [List.length_drop, List.length_take]; rfl)) ?_; (with_reducible refine (quant_Check.calls k _ _ t299 t302 _ ?side1 ?side2 A24.out).mono ?_); (case side1 => repeat (first | exact (Kd.R_reads' HO301.out).2.2 | (with_reducible refine Kd.C_alloc ?_ _) | (with_reducible refine Kd.C_drewN ?_ _) | (with_reducible refine Kd.C_drew ?_))); (case side2 => exact (Kd.R_reads' HO301.out).2.1); rintro e w36 ⟨rfl, hb⟩; refine ⟨_, rfl, ?_⟩; have n0_ := Aside0.mk (Kd.R_below (by (with_reducible repeat (first | apply Kd.R_alloc | apply Kd.R_drewN | apply Kd.R_drew)); exact HO279.out) hb); have n1_ := Aside0.mk (Kd.R_below (by (with_reducible repeat (first | apply Kd.R_alloc | apply Kd.R_drewN | apply Kd.R_drew)); exact HO282.out) hb); have n2_ := Aside0.mk (Kd.R_below (by (with_reducible repeat (first | apply Kd.R_alloc | apply Kd.R_drewN | apply Kd.R_drew)); exact HO287.out) hb); have n3_ := Aside0.mk (Kd.R_below (by (with_reducible repeat (first | apply Kd.R_alloc | apply Kd.R_drewN | apply Kd.R_drew)); exact HO290.out) hb); have n4_ := Aside0.mk (Kd.R_below (by (with_reducible repeat (first | apply Kd.R_alloc | apply Kd.R_drewN | apply Kd.R_drew)); exact HO293.out) hb); have n5_ := Aside0.mk (Kd.R_below (by (with_reducible repeat (first | apply Kd.R_alloc | apply Kd.R_drewN | apply Kd.R_drew)); exact HO298.out) hb); have n6_ := Aside0.mk (Kd.R_below (by (with_reducible repeat (first | apply Kd.R_alloc | apply Kd.R_drewN | apply Kd.R_drew)); exact HO301.out) hb); have n7_ := Aside0.mk (below_step (by repeat (first | (with_reducible first | exact HB.out | apply below_alloc | apply pw_below_drewN | apply below_drew1) | exact HB.out)) hb); clear HO279; clear HO282; clear HO287; clear HO290; clear HO293; clear HO298; clear HO301; clear HB; have HO279 := n0_; have HO282 := n1_; have HO287 := n2_; have HO290 := n3_; have HO293 := n4_; have HO298 := n5_; have HO301 := n6_; have HB := n7_; clear n0_ n1_ n2_ n3_ n4_ n5_ n6_ n7_; (try clear hb); (try clear hb2); (try clear hk); (try clear hi)))
        go_meet
        case rel => exact ⟨_, (true), (by first | rfl | (simp; done) | (simp [*]; done) | (simp only [i64_w]; done) | (simp [i64_w, Int.tdiv_eq_ediv_of_nonneg]; done)), H', ⟨by first | omega | exact Nat.le_refl _⟩, ⟨by (with_reducible repeat (first | apply Kd.R_alloc | apply Kd.R_drewN | apply Kd.R_drew)); exact Kd.R_mono HO287.out (fun _ hk => hk.1.2)⟩, ⟨by (with_reducible repeat (first | apply Kd.R_alloc | apply Kd.R_drewN | apply Kd.R_drew)); exact Kd.R_mono HO298.out (fun _ hk => hk.1.1.1.2)⟩, ⟨by repeat (first | (with_reducible first | exact HB.out | apply below_alloc | apply pw_below_drewN | apply below_drew1) | exact HB.out)⟩⟩
    case rest =>
      clear HC11
      try clear c1
      try clear c2
      try clear p2
      try clear c4
      try clear c7
      try clear c10
      try clear c11
      try clear c19
      try clear c20
      try clear c25
      try clear c25b0
      try clear c25b1
      obtain ⟨kq, x50_10, rfl, HA, HJ10, HO_5, HO_8, HB⟩ := hcut
      cases kq with
      | zero => exact absurd HA.out (by simp [berthlaw02_QuantAway.j0])
      | succ kj10 =>
        have H := HA.out
        clear HA
        simp only [berthlaw02_QuantAway.j0] at H
        by_cases c37 : x50_10 = true
        · subst c37
          have H1 : (if t285 = 0 then (some false) else (some (t296 != 0))) = some r := by rw [if_pos rfl] at H; exact H
          clear H
          have H := H1
          clear H1
          by_cases c38 : t285 = 0
          · rw [if_pos c38] at H
            have c38b0 : (t285 == 0) = true := beq_iff_eq.mpr c38
            have c38b1 : (t285 != 0) = false := bne_eq_false_iff_eq.mpr c38
            clear c38
            obtain rfl := Option.some.inj H
            go_wp2
            go_ret
            exact ⟨by first | rfl | (simp [errW_none, errW_some] <;> rfl) | (simp [*, errW_none, errW_some] <;> rfl), by repeat (first | (with_reducible first | exact HB.out | apply below_alloc | apply pw_below_drewN | apply below_drew1) | exact HB.out)⟩
          · rw [if_neg c38] at H
            have c38b0 : (t285 == 0) = false := beq_eq_false_iff_ne.mpr c38
            have c38b1 : (t285 != 0) = true := bne_iff_ne.mpr c38
            obtain rfl := Option.some.inj H
            go_wp2
            go_ret
            exact ⟨by first | rfl | (simp [errW_none, errW_some] <;> rfl) | (simp [*, errW_none, errW_some] <;> rfl), by repeat (first | (with_reducible first | exact HB.out | apply below_alloc | apply pw_below_drewN | apply below_drew1) | exact HB.out)⟩
        · replace c37 := Bool.eq_false_iff.mpr c37
          subst c37
          have H1 : (if t285 = t296 then ((berthlaw02_Same.f kj10 t283 t294).bind fun t307 => (berthlaw02_QuantAway.j1 kj10 l0 l1 t283 t285 (!t307))) else (berthlaw02_QuantAway.j1 kj10 l0 l1 t283 t285 true)) = some r := by rw [if_neg (show ¬ (false = true) by decide)] at H; exact H
          clear H
          have H := H1
          clear H1
          have HC39 := Aside0.mk H
          clear H
          go_upto_region 7 with (fail)
          go_cut [65] (fun v65 wc => ∃ (kq : Nat) (x65_38 : Bool), v65 = .bool x65_38 ∧ Aside0 (berthlaw02_QuantAway.j1 kq l0 l1 t283 t285 x65_38 = some r) ∧ Aside0 (kq ≤ kj10) ∧ Aside0 (Kd.R k28 28 wc w.heap.size (fun _ => True) v286 t283) ∧ Aside0 (Below w.heap.size w wc))
          case first =>
            have H := HC39.out
            clear HC39
            by_cases c40 : t285 = t296
            · rw [if_pos c40] at H
              have c40b0 : (t285 == t296) = true := beq_iff_eq.mpr c40
              have c40b1 : (t285 != t296) = false := bne_eq_false_iff_eq.mpr c40
              clear c40
              (first | rw [c40b0] | (simp only [i64_w, i32_w]; rw [c40b0]) | skip)
              replace H := Option.bind_eq_some_iff.mp H
              obtain ⟨t307, A410, H⟩ := H
              replace H : (berthlaw02_QuantAway.j1 kj10 l0 l1 t283 t285 (!t307)) = some r := H
              have A41 := Aside0.mk A410
              clear A410
              have H' := Aside0.mk H
              clear H
              obtain ⟨Ao42, co42, eo42⟩ := Kd.R_slice HO_5.out
              subst eo42
              obtain ⟨Ao43, co43, eo43⟩ := Kd.R_slice HO_8.out
              subst eo43
              go_wp2_with (first | (go_at_call 21; (with_reducible refine (berthlaw02_Same.calls kj10 _ _ t283 _ _ t294 t307 _ ?side1 ?side2 ?side3 ?side4 A41.out).mono ?_); (case side1 => repeat (first | exact (Kd.R_reads' HO_5.out).2.2 | (with_reducible refine Kd.C_alloc ?_ _) | (with_reducible refine Kd.C_drewN ?_ _) | (with_reducible refine Kd.C_drew ?_))); (case side2 => exact (Kd.R_reads' HO_5.out).2.1); (case side3 => repeat (first | exact (Kd.R_reads' HO_8.out).2.2 | (with_reducible refine Kd.C_alloc ?_ _) | (with_reducible refine Kd.C_drewN ?_ _) | (with_reducible refine Kd.C_drew ?_))); (case side4 => exact (Kd.R_reads' HO_8.out).2.1); rintro e w' ⟨rfl, ⟨nd, rfl⟩⟩))
              go_meet
              case rel => exact ⟨_, (!t307), (by first | rfl | (simp; done) | (simp [*]; done) | (simp only [i64_w]; done) | (simp [i64_w, Int.tdiv_eq_ediv_of_nonneg]; done)), H', ⟨by have := HJ10.out; first | omega | exact Nat.le_refl _⟩, ⟨by (with_reducible repeat (first | apply Kd.R_alloc | apply Kd.R_drewN | apply Kd.R_drew)); exact Kd.R_mono HO_5.out (fun _ hk => trivial)⟩, ⟨by repeat (first | (with_reducible first | exact HB.out | apply below_alloc | apply pw_below_drewN | apply below_drew1) | exact HB.out)⟩⟩
            · rw [if_neg c40] at H
              have c40b0 : (t285 == t296) = false := beq_eq_false_iff_ne.mpr c40
              have c40b1 : (t285 != t296) = true := bne_iff_ne.mpr c40
              (first | rw [c40b0] | (simp only [i64_w, i32_w]; rw [c40b0]) | skip)
              have H' := Aside0.mk H
              clear H
              go_wp2
              go_meet
              case rel => exact ⟨_, (true), (by first | rfl | (simp; done) | (simp [*]; done) | (simp only [i64_w]; done) | (simp [i64_w, Int.tdiv_eq_ediv_of_nonneg]; done)), H', ⟨by have := HJ10.out; first | omega | exact Nat.le_refl _⟩, ⟨by (with_reducible repeat (first | apply Kd.R_alloc | apply Kd.R_drewN | apply Kd.R_drew)); exact Kd.R_mono HO_5.out (fun _ hk => trivial)⟩, ⟨by repeat (first | (with_reducible first | exact HB.out | apply below_alloc | apply pw_below_drewN | apply below_drew1) | exact HB.out)⟩⟩
          case rest =>
            clear HC39
            try clear c1
            try clear c2
            try clear p2
            try clear c3
            try clear c4
            try clear c7
            try clear c10
            try clear c11
            try clear c19
            try clear c20
            try clear c25
            try clear c25b0
            try clear c25b1
            try clear c37
            try clear c38
            try clear c38b0
            try clear c38b1
            try clear c40
            try clear c40b0
            try clear c40b1
            try clear p2
            obtain ⟨kq, x65_38, rfl, HA, HJ38, HO_5, HB⟩ := hcut
            cases kq with
            | zero => exact absurd HA.out (by simp [berthlaw02_QuantAway.j1])
            | succ kj38 =>
              have H := HA.out
              clear HA
              simp only [berthlaw02_QuantAway.j1] at H
              by_cases c44 : x65_38 = true
              · subst c44
                have H1 : (some false) = some r := by rw [if_pos rfl] at H; exact H
                clear H
                have H := H1
                clear H1
                obtain rfl := Option.some.inj H
                go_wp2
                go_ret
                exact ⟨by first | rfl | (simp [errW_none, errW_some] <;> rfl) | (simp [*, errW_none, errW_some] <;> rfl), by repeat (first | (with_reducible first | exact HB.out | apply below_alloc | apply pw_below_drewN | apply below_drew1) | exact HB.out)⟩
              · replace c44 := Bool.eq_false_iff.mpr c44
                subst c44
                have H1 : (if t285 = 0 then ((berthlaw02_Copied.f t283).bind fun t308 => ((berthlaw02_Copied.f l1).bind fun t311 => ((quant_Sub.f kj38 t308 t311).bind fun bt314 => ((berthlaw02_Copied.f t283).bind fun t319 => ((berthlaw02_Copied.f l0).bind fun t322 => ((quant_Sub.f kj38 t319 t322).bind fun bt325 => (if bt314.2.2 = 0 then (if bt325.2.2 = 0 then ((berthlaw02_Same.f kj38 bt314.1 l0).bind fun t330 => (if t330 = true then ((berthlaw02_Same.f kj38 bt325.1 l1).bind fun t331 => (berthlaw02_QuantAway.j2 kj38 l0 l1 t283 (!t331))) else (berthlaw02_QuantAway.j2 kj38 l0 l1 t283 true))) else (berthlaw02_QuantAway.j2 kj38 l0 l1 t283 true)) else (berthlaw02_QuantAway.j2 kj38 l0 l1 t283 true)))))))) else (if t285 = 28 then (some true) else (some (t285 == 27)))) = some r := by rw [if_neg (show ¬ (false = true) by decide)] at H; exact H
                clear H
                have H := H1
                clear H1
                by_cases c45 : t285 = 0
                · rw [if_pos c45] at H
                  have c45b0 : (t285 == 0) = true := beq_iff_eq.mpr c45
                  have c45b1 : (t285 != 0) = false := bne_eq_false_iff_eq.mpr c45
                  clear c45
                  replace H := Option.bind_eq_some_iff.mp H
                  obtain ⟨t308, A460, H⟩ := H
                  replace H : ((berthlaw02_Copied.f l1).bind fun t311 => ((quant_Sub.f kj38 t308 t311).bind fun bt314 => ((berthlaw02_Copied.f t283).bind fun t319 => ((berthlaw02_Copied.f l0).bind fun t322 => ((quant_Sub.f kj38 t319 t322).bind fun bt325 => (if bt314.2.2 = 0 then (if bt325.2.2 = 0 then ((berthlaw02_Same.f kj38 bt314.1 l0).bind fun t330 => (if t330 = true then ((berthlaw02_Same.f kj38 bt325.1 l1).bind fun t331 => (berthlaw02_QuantAway.j2 kj38 l0 l1 t283 (!t331))) else (berthlaw02_QuantAway.j2 kj38 l0 l1 t283 true))) else (berthlaw02_QuantAway.j2 kj38 l0 l1 t283 true)) else (berthlaw02_QuantAway.j2 kj38 l0 l1 t283 true))))))) = some r := H
                  have A46 := Aside0.mk A460
                  clear A460
                  replace H := Option.bind_eq_some_iff.mp H
                  obtain ⟨t311, A470, H⟩ := H
                  replace H : ((quant_Sub.f kj38 t308 t311).bind fun bt314 => ((berthlaw02_Copied.f t283).bind fun t319 => ((berthlaw02_Copied.f l0).bind fun t322 => ((quant_Sub.f kj38 t319 t322).bind fun bt325 => (if bt314.2.2 = 0 then (if bt325.2.2 = 0 then ((berthlaw02_Same.f kj38 bt314.1 l0).bind fun t330 => (if t330 = true then ((berthlaw02_Same.f kj38 bt325.1 l1).bind fun t331 => (berthlaw02_QuantAway.j2 kj38 l0 l1 t283 (!t331))) else (berthlaw02_QuantAway.j2 kj38 l0 l1 t283 true))) else (berthlaw02_QuantAway.j2 kj38 l0 l1 t283 true)) else (berthlaw02_QuantAway.j2 kj38 l0 l1 t283 true)))))) = some r := H
                  have A47 := Aside0.mk A470
                  clear A470
                  replace H := Option.bind_eq_some_iff.mp H
                  obtain ⟨⟨t314, t315, t316⟩, A480, H⟩ := H
                  replace H : ((berthlaw02_Copied.f t283).bind fun t319 => ((berthlaw02_Copied.f l0).bind fun t322 => ((quant_Sub.f kj38 t319 t322).bind fun bt325 => (if t316 = 0 then (if bt325.2.2 = 0 then ((berthlaw02_Same.f kj38 t314 l0).bind fun t330 => (if t330 = true then ((berthlaw02_Same.f kj38 bt325.1 l1).bind fun t331 => (berthlaw02_QuantAway.j2 kj38 l0 l1 t283 (!t331))) else (berthlaw02_QuantAway.j2 kj38 l0 l1 t283 true))) else (berthlaw02_QuantAway.j2 kj38 l0 l1 t283 true)) else (berthlaw02_QuantAway.j2 kj38 l0 l1 t283 true))))) = some r := H
                  have A48 := Aside0.mk A480
                  clear A480
                  replace H := Option.bind_eq_some_iff.mp H
                  obtain ⟨t319, A490, H⟩ := H
                  replace H : ((berthlaw02_Copied.f l0).bind fun t322 => ((quant_Sub.f kj38 t319 t322).bind fun bt325 => (if t316 = 0 then (if bt325.2.2 = 0 then ((berthlaw02_Same.f kj38 t314 l0).bind fun t330 => (if t330 = true then ((berthlaw02_Same.f kj38 bt325.1 l1).bind fun t331 => (berthlaw02_QuantAway.j2 kj38 l0 l1 t283 (!t331))) else (berthlaw02_QuantAway.j2 kj38 l0 l1 t283 true))) else (berthlaw02_QuantAway.j2 kj38 l0 l1 t283 true)) else (berthlaw02_QuantAway.j2 kj38 l0 l1 t283 true)))) = some r := H
                  have A49 := Aside0.mk A490
                  clear A490
                  replace H := Option.bind_eq_some_iff.mp H
                  obtain ⟨t322, A500, H⟩ := H
                  replace H : ((quant_Sub.f kj38 t319 t322).bind fun bt325 => (if t316 = 0 then (if bt325.2.2 = 0 then ((berthlaw02_Same.f kj38 t314 l0).bind fun t330 => (if t330 = true then ((berthlaw02_Same.f kj38 bt325.1 l1).bind fun t331 => (berthlaw02_QuantAway.j2 kj38 l0 l1 t283 (!t331))) else (berthlaw02_QuantAway.j2 kj38 l0 l1 t283 true))) else (berthlaw02_QuantAway.j2 kj38 l0 l1 t283 true)) else (berthlaw02_QuantAway.j2 kj38 l0 l1 t283 true))) = some r := H
                  have A50 := Aside0.mk A500
                  clear A500
                  replace H := Option.bind_eq_some_iff.mp H
                  obtain ⟨⟨t325, t326, t327⟩, A510, H⟩ := H
                  replace H : (if t316 = 0 then (if t327 = 0 then ((berthlaw02_Same.f kj38 t314 l0).bind fun t330 => (if t330 = true then ((berthlaw02_Same.f kj38 t325 l1).bind fun t331 => (berthlaw02_QuantAway.j2 kj38 l0 l1 t283 (!t331))) else (berthlaw02_QuantAway.j2 kj38 l0 l1 t283 true))) else (berthlaw02_QuantAway.j2 kj38 l0 l1 t283 true)) else (berthlaw02_QuantAway.j2 kj38 l0 l1 t283 true)) = some r := H
                  have A51 := Aside0.mk A510
                  clear A510
                  have HC52 := Aside0.mk H
                  clear H
                  obtain ⟨Ao53, co53, eo53⟩ := Kd.R_slice HO_5.out
                  subst eo53
                  go_upto_region 13 with (first | ((with_reducible refine gate_callee (f := 10) rfl ?_); refine goesL_ (some 76) rfl rfl Try.func10 (by kernel_rfl) rfl #[.slice Ao53 t283.length co53] rfl (by (try simp only [List.map_toArray, List.map_cons, List.map_nil]); first | done | rfl | (simp only [List.length_drop, List.length_take]; rfl)) ?_; (with_reducible refine (berthlaw02_Copied.calls _ _ t283 t308 _ ?side1 ?side2 A46.out).mono ?_); (case side1 => repeat (first | exact (Kd.R_reads' HO_5.out).2.2 | (with_reducible refine Kd.C_alloc ?_ _) | (with_reducible refine Kd.C_drewN ?_ _) | (with_reducible refine Kd.C_drew ?_))); (case side2 => exact (Kd.R_reads' HO_5.out).2.1); rintro e w54 ⟨v309, rfl, ho0, hb⟩; refine ⟨_, rfl, ?_⟩; have n0_ := Aside0.mk (Kd.R_elder' (by (with_reducible repeat (first | apply Kd.R_alloc | apply Kd.R_drewN | apply Kd.R_drew)); exact HO_5.out) (Kd.R_base ho0) hb); have n1_ := Aside0.mk (Kd.R_lower (Kd.R_new' ho0 (Kd.R_lt (by (with_reducible repeat (first | apply Kd.R_alloc | apply Kd.R_drewN | apply Kd.R_drew)); exact HO_5.out))) (below_size (by repeat (first | (with_reducible first | exact HB.out | apply below_alloc | apply pw_below_drewN | apply below_drew1) | exact HB.out)))); have n2_ := Aside0.mk (below_step (by repeat (first | (with_reducible first | exact HB.out | apply below_alloc | apply pw_below_drewN | apply below_drew1) | exact HB.out)) hb); clear HO_5; clear HB; have HO_5 := n0_; have HO310 := n1_; have HB := n2_; clear n0_ n1_ n2_; (try clear hb); (try clear hb2); (try clear hk); (try clear hi); (try clear ho0)) | ((with_reducible refine gate_callee (f := 10) rfl ?_); refine goesL_ (some 78) rfl rfl Try.func10 (by kernel_rfl) rfl #[.slice A1 l1.length c1] rfl (by (try simp only [List.map_toArray, List.map_cons, List.map_nil]); first | done | rfl | (simp only [List.length_drop, List.length_take]; rfl)) ?_; (with_reducible refine (berthlaw02_Copied.calls _ _ l1 t311 _ ?side1 ?side2 A47.out).mono ?_); (case side1 => repeat (first | exact (Kd.C_below HR1.out HB.out) | (with_reducible refine Kd.C_alloc ?_ _) | (with_reducible refine Kd.C_drewN ?_ _) | (with_reducible refine Kd.C_drew ?_))); (case side2 => exact HC1.out); rintro e w55 ⟨v312, rfl, ho0, hb⟩; refine ⟨_, rfl, ?_⟩; have n0_ := Aside0.mk (Kd.R_elder' (by (with_reducible repeat (first | apply Kd.R_alloc | apply Kd.R_drewN | apply Kd.R_drew)); exact HO_5.out) (Kd.R_base ho0) hb); have n1_ := Aside0.mk (Kd.R_elder' (by (with_reducible repeat (first | apply Kd.R_alloc | apply Kd.R_drewN | apply Kd.R_drew)); exact HO310.out) (Kd.R_base ho0) hb); have n2_ := Aside0.mk (Kd.R_lower (Kd.R_new' (Kd.R_new' ho0 (Kd.R_lt (by (with_reducible repeat (first | apply Kd.R_alloc | apply Kd.R_drewN | apply Kd.R_drew)); exact HO_5.out))) (Kd.R_lt (by (with_reducible repeat (first | apply Kd.R_alloc | apply Kd.R_drewN | apply Kd.R_drew)); exact HO310.out))) (below_size (by repeat (first | (with_reducible first | exact HB.out | apply below_alloc | apply pw_below_drewN | apply below_drew1) | exact HB.out)))); have n3_ := Aside0.mk (below_step (by repeat (first | (with_reducible first | exact HB.out | apply below_alloc | apply pw_below_drewN | apply below_drew1) | exact HB.out)) hb); clear HO_5; clear HO310; clear HB; have HO_5 := n0_; have HO310 := n1_; have HO313 := n2_; have HB := n3_; clear n0_ n1_ n2_ n3_; (try clear hb); (try clear hb2); (try clear hk); (try clear hi); (try clear ho0); obtain ⟨Ao56, co56, eo56⟩ := Kd.R_slice HO310.out; subst eo56; obtain ⟨Ao57, co57, eo57⟩ := Kd.R_slice HO313.out; subst eo57) | ((with_reducible refine gate_callee (f := 22) rfl ?_); refine goesL_ (some 79) rfl rfl Try.func22 (by kernel_rfl) rfl #[.slice Ao56 t308.length co56, .slice Ao57 t311.length co57] rfl (by (try simp only [List.map_toArray, List.map_cons, List.map_nil]); first | done | rfl | (simp only [List.length_drop, List.length_take]; rfl)) ?_; (with_reducible refine (quant_Sub.calls kj38 _ _ t308 _ _ t311 t314 t315 t316 _ ?side1 ?side2 ?side3 ?side4 A48.out).mono ?_); (case side1 => repeat (first | exact (Kd.R_reads' HO310.out).2.2 | (with_reducible refine Kd.C_alloc ?_ _) | (with_reducible refine Kd.C_drewN ?_ _) | (with_reducible refine Kd.C_drew ?_))); (case side2 => exact (Kd.R_reads' HO310.out).2.1); (case side3 => repeat (first | exact (Kd.R_reads' HO313.out).2.2 | (with_reducible refine Kd.C_alloc ?_ _) | (with_reducible refine Kd.C_drewN ?_ _) | (with_reducible refine Kd.C_drew ?_))); (case side4 => exact (Kd.R_reads' HO313.out).2.1); rintro e w58 ⟨v317, rfl, ho0, hb⟩; refine ⟨_, rfl, ?_⟩; have n0_ := Aside0.mk (Kd.R_elder' (by (with_reducible repeat (first | apply Kd.R_alloc | apply Kd.R_drewN | apply Kd.R_drew)); exact HO_5.out) (Kd.R_base ho0) hb); have n1_ := Aside0.mk (Kd.R_elder' (by (with_reducible repeat (first | apply Kd.R_alloc | apply Kd.R_drewN | apply Kd.R_drew)); exact HO310.out) (Kd.R_base ho0) hb); have n2_ := Aside0.mk (Kd.R_elder' (by (with_reducible repeat (first | apply Kd.R_alloc | apply Kd.R_drewN | apply Kd.R_drew)); exact HO313.out) (Kd.R_base ho0) hb); have n3_ := Aside0.mk (Kd.R_lower (Kd.R_new' (Kd.R_new' (Kd.R_new' ho0 (Kd.R_lt (by (with_reducible repeat (first | apply Kd.R_alloc | apply Kd.R_drewN | apply Kd.R_drew)); exact HO_5.out))) (Kd.R_lt (by (with_reducible repeat (first | apply Kd.R_alloc | apply Kd.R_drewN | apply Kd.R_drew)); exact HO310.out))) (Kd.R_lt (by (with_reducible repeat (first | apply Kd.R_alloc | apply Kd.R_drewN | apply Kd.R_drew)); exact HO313.out))) (below_size (by repeat (first | (with_reducible first | exact HB.out | apply below_alloc | apply pw_below_drewN | apply below_drew1) | exact HB.out)))); have n4_ := Aside0.mk (below_step (by repeat (first | (with_reducible first | exact HB.out | apply below_alloc | apply pw_below_drewN | apply below_drew1) | exact HB.out)) hb); clear HO_5; clear HO310; clear HO313; clear HB; have HO_5 := n0_; have HO310 := n1_; have HO313 := n2_; have HO318 := n3_; have HB := n4_; clear n0_ n1_ n2_ n3_ n4_; (try clear hb); (try clear hb2); (try clear hk); (try clear hi); (try clear ho0)) | ((with_reducible refine gate_callee (f := 10) rfl ?_); refine goesL_ (some 85) rfl rfl Try.func10 (by kernel_rfl) rfl #[.slice Ao53 t283.length co53] rfl (by (try simp only [List.map_toArray, List.map_cons, List.map_nil]); first | done | rfl | (simp only [List.length_drop, List.length_take]; rfl)) ?_; (with_reducible refine (berthlaw02_Copied.calls _ _ t283 t319 _ ?side1 ?side2 A49.out).mono ?_); (case side1 => repeat (first | exact (Kd.R_reads' HO_5.out).2.2 | (with_reducible refine Kd.C_alloc ?_ _) | (with_reducible refine Kd.C_drewN ?_ _) | (with_reducible refine Kd.C_drew ?_))); (case side2 => exact (Kd.R_reads' HO_5.out).2.1); rintro e w59 ⟨v320, rfl, ho0, hb⟩; refine ⟨_, rfl, ?_⟩; have n0_ := Aside0.mk (Kd.R_elder' (by (with_reducible repeat (first | apply Kd.R_alloc | apply Kd.R_drewN | apply Kd.R_drew)); exact HO_5.out) (Kd.R_base ho0) hb); have n1_ := Aside0.mk (Kd.R_elder' (by (with_reducible repeat (first | apply Kd.R_alloc | apply Kd.R_drewN | apply Kd.R_drew)); exact HO310.out) (Kd.R_base ho0) hb); have n2_ := Aside0.mk (Kd.R_elder' (by (with_reducible repeat (first | apply Kd.R_alloc | apply Kd.R_drewN | apply Kd.R_drew)); exact HO313.out) (Kd.R_base ho0) hb); have n3_ := Aside0.mk (Kd.R_elder' (by (with_reducible repeat (first | apply Kd.R_alloc | apply Kd.R_drewN | apply Kd.R_drew)); exact HO318.out) (Kd.R_base ho0) hb); have n4_ := Aside0.mk (Kd.R_lower (Kd.R_new' (Kd.R_new' (Kd.R_new' (Kd.R_new' ho0 (Kd.R_lt (by (with_reducible repeat (first | apply Kd.R_alloc | apply Kd.R_drewN | apply Kd.R_drew)); exact HO_5.out))) (Kd.R_lt (by (with_reducible repeat (first | apply Kd.R_alloc | apply Kd.R_drewN | apply Kd.R_drew)); exact HO310.out))) (Kd.R_lt (by (with_reducible repeat (first | apply Kd.R_alloc | apply Kd.R_drewN | apply Kd.R_drew)); exact HO313.out))) (Kd.R_lt (by (with_reducible repeat (first | apply Kd.R_alloc | apply Kd.R_drewN | apply Kd.R_drew)); exact HO318.out))) (below_size (by repeat (first | (with_reducible first | exact HB.out | apply below_alloc | apply pw_below_drewN | apply below_drew1) | exact HB.out)))); have n5_ := Aside0.mk (below_step (by repeat (first | (with_reducible first | exact HB.out | apply below_alloc | apply pw_below_drewN | apply below_drew1) | exact HB.out)) hb); clear HO_5; clear HO310; clear HO313; clear HO318; clear HB; have HO_5 := n0_; have HO310 := n1_; have HO313 := n2_; have HO318 := n3_; have HO321 := n4_; have HB := n5_; clear n0_ n1_ n2_ n3_ n4_ n5_; (try clear hb); (try clear hb2); (try clear hk); (try clear hi); (try clear ho0)) | ((with_reducible refine gate_callee (f := 10) rfl ?_); refine goesL_ (some 87) rfl rfl Try.func10 (by kernel_rfl) rfl #[.slice A0 l0.length c0] rfl (by (try simp only [List.map_toArray, List.map_cons, List.map_nil]); first | done | rfl | (simp only [List.length_drop, List.length_take]; rfl)) ?_; (with_reducible refine (berthlaw02_Copied.calls _ _ l0 t322 _ ?side1 ?side2 A50.out).mono ?_); (case side1 => repeat (first | exact (Kd.C_below HR0.out HB.out) | (with_reducible refine Kd.C_alloc ?_ _) | (with_reducible refine Kd.C_drewN ?_ _) | (with_reducible refine Kd.C_drew ?_))); (case side2 => exact HC0.out); rintro e w60 ⟨v323, rfl, ho0, hb⟩; refine ⟨_, rfl, ?_⟩; have n0_ := Aside0.mk (Kd.R_elder' (by (with_reducible repeat (first | apply Kd.R_alloc | apply Kd.R_drewN | apply Kd.R_drew)); exact HO_5.out) (Kd.R_base ho0) hb); have n1_ := Aside0.mk (Kd.R_elder' (by (with_reducible repeat (first | apply Kd.R_alloc | apply Kd.R_drewN | apply Kd.R_drew)); exact HO310.out) (Kd.R_base ho0) hb); have n2_ := Aside0.mk (Kd.R_elder' (by (with_reducible repeat (first | apply Kd.R_alloc | apply Kd.R_drewN | apply Kd.R_drew)); exact HO313.out) (Kd.R_base ho0) hb); have n3_ := Aside0.mk (Kd.R_elder' (by (with_reducible repeat (first | apply Kd.R_alloc | apply Kd.R_drewN | apply Kd.R_drew)); exact HO318.out) (Kd.R_base ho0) hb); have n4_ := Aside0.mk (Kd.R_elder' (by (with_reducible repeat (first | apply Kd.R_alloc | apply Kd.R_drewN | apply Kd.R_drew)); exact HO321.out) (Kd.R_base ho0) hb); have n5_ := Aside0.mk (Kd.R_lower (Kd.R_new' (Kd.R_new' (Kd.R_new' (Kd.R_new' (Kd.R_new' ho0 (Kd.R_lt (by (with_reducible repeat (first | apply Kd.R_alloc | apply Kd.R_drewN | apply Kd.R_drew)); exact HO_5.out))) (Kd.R_lt (by (with_reducible repeat (first | apply Kd.R_alloc | apply Kd.R_drewN | apply Kd.R_drew)); exact HO310.out))) (Kd.R_lt (by (with_reducible repeat (first | apply Kd.R_alloc | apply Kd.R_drewN | apply Kd.R_drew)); exact HO313.out))) (Kd.R_lt (by (with_reducible repeat (first | apply Kd.R_alloc | apply Kd.R_drewN | apply Kd.R_drew)); exact HO318.out))) (Kd.R_lt (by (with_reducible repeat (first | apply Kd.R_alloc | apply Kd.R_drewN | apply Kd.R_drew)); exact HO321.out))) (below_size (by repeat (first | (with_reducible first | exact HB.out | apply below_alloc | apply pw_below_drewN | apply below_drew1) | exact HB.out)))); have n6_ := Aside0.mk (below_step (by repeat (first | (with_reducible first | exact HB.out | apply below_alloc | apply pw_below_drewN | apply below_drew1) | exact HB.out)) hb); clear HO_5; clear HO310; clear HO313; clear HO318; clear HO321; clear HB; have HO_5 := n0_; have HO310 := n1_; have HO313 := n2_; have HO318 := n3_; have HO321 := n4_; have HO324 := n5_; have HB := n6_; clear n0_ n1_ n2_ n3_ n4_ n5_ n6_; (try clear hb); (try clear hb2); (try clear hk); (try clear hi); (try clear ho0); obtain ⟨Ao61, co61, eo61⟩ := Kd.R_slice HO321.out; subst eo61; obtain ⟨Ao62, co62, eo62⟩ := Kd.R_slice HO324.out; subst eo62) | ((with_reducible refine gate_callee (f := 22) rfl ?_); refine goesL_ (some 88) rfl rfl Try.func22 (by kernel_rfl) rfl #[.slice Ao61 t319.length co61, .slice Ao62 t322.length co62] rfl (by (try simp only [List.map_toArray, List.map_cons, List.map_nil]); first | done | rfl | (simp only [List.length_drop, List.length_take]; rfl)) ?_; (with_reducible refine (quant_Sub.calls kj38 _ _ t319 _ _ t322 t325 t326 t327 _ ?side1 ?side2 ?side3 ?side4 A51.out).mono ?_); (case side1 => repeat (first | exact (Kd.R_reads' HO321.out).2.2 | (with_reducible refine Kd.C_alloc ?_ _) | (with_reducible refine Kd.C_drewN ?_ _) | (with_reducible refine Kd.C_drew ?_))); (case side2 => exact (Kd.R_reads' HO321.out).2.1); (case side3 => repeat (first | exact (Kd.R_reads' HO324.out).2.2 | (with_reducible refine Kd.C_alloc ?_ _) | (with_reducible refine Kd.C_drewN ?_ _) | (with_reducible refine Kd.C_drew ?_))); (case side4 => exact (Kd.R_reads' HO324.out).2.1); rintro e w63 ⟨v328, rfl, ho0, hb⟩; refine ⟨_, rfl, ?_⟩; have n0_ := Aside0.mk (Kd.R_elder' (by (with_reducible repeat (first | apply Kd.R_alloc | apply Kd.R_drewN | apply Kd.R_drew)); exact HO_5.out) (Kd.R_base ho0) hb); have n1_ := Aside0.mk (Kd.R_elder' (by (with_reducible repeat (first | apply Kd.R_alloc | apply Kd.R_drewN | apply Kd.R_drew)); exact HO310.out) (Kd.R_base ho0) hb); have n2_ := Aside0.mk (Kd.R_elder' (by (with_reducible repeat (first | apply Kd.R_alloc | apply Kd.R_drewN | apply Kd.R_drew)); exact HO313.out) (Kd.R_base ho0) hb); have n3_ := Aside0.mk (Kd.R_elder' (by (with_reducible repeat (first | apply Kd.R_alloc | apply Kd.R_drewN | apply Kd.R_drew)); exact HO318.out) (Kd.R_base ho0) hb); have n4_ := Aside0.mk (Kd.R_elder' (by (with_reducible repeat (first | apply Kd.R_alloc | apply Kd.R_drewN | apply Kd.R_drew)); exact HO321.out) (Kd.R_base ho0) hb); have n5_ := Aside0.mk (Kd.R_elder' (by (with_reducible repeat (first | apply Kd.R_alloc | apply Kd.R_drewN | apply Kd.R_drew)); exact HO324.out) (Kd.R_base ho0) hb); have n6_ := Aside0.mk (Kd.R_lower (Kd.R_new' (Kd.R_new' (Kd.R_new' (Kd.R_new' (Kd.R_new' (Kd.R_new' ho0 (Kd.R_lt (by (with_reducible repeat (first | apply Kd.R_alloc | apply Kd.R_drewN | apply Kd.R_drew)); exact HO_5.out))) (Kd.R_lt (by (with_reducible repeat (first | apply Kd.R_alloc | apply Kd.R_drewN | apply Kd.R_drew)); exact HO310.out))) (Kd.R_lt (by (with_reducible repeat (first | apply Kd.R_alloc | apply Kd.R_drewN | apply Kd.R_drew)); exact HO313.out))) (Kd.R_lt (by (with_reducible repeat (first | apply Kd.R_alloc | apply Kd.R_drewN | apply Kd.R_drew)); exact HO318.out))) (Kd.R_lt (by (with_reducible repeat (first | apply Kd.R_alloc | apply Kd.R_drewN | apply Kd.R_drew)); exact HO321.out))) (Kd.R_lt (by (with_reducible repeat (first | apply Kd.R_alloc | apply Kd.R_drewN | apply Kd.R_drew)); exact HO324.out))) (below_size (by repeat (first | (with_reducible first | exact HB.out | apply below_alloc | apply pw_below_drewN | apply below_drew1) | exact HB.out)))); have n7_ := Aside0.mk (below_step (by repeat (first | (with_reducible first | exact HB.out | apply below_alloc | apply pw_below_drewN | apply below_drew1) | exact HB.out)) hb); clear HO_5; clear HO310; clear HO313; clear HO318; clear HO321; clear HO324; clear HB; have HO_5 := n0_; have HO310 := n1_; have HO313 := n2_; have HO318 := n3_; have HO321 := n4_; have HO324 := n5_; have HO329 := n6_; have HB := n7_; clear n0_ n1_ n2_ n3_ n4_ n5_ n6_ n7_; (try clear hb); (try clear hb2); (try clear hk); (try clear hi); (try clear ho0)))
                  (try simp only [Act.put, List.setIfInBounds_toArray, List.set_cons_zero, List.set_cons_succ])
                  go_cut [109] (fun v109 wc => ∃ (kq : Nat) (x109_51 : Bool), v109 = .bool x109_51 ∧ Aside0 (berthlaw02_QuantAway.j2 kq l0 l1 t283 x109_51 = some r) ∧ Aside0 (kq ≤ kj38) ∧ Aside0 (Kd.R k28 28 wc w.heap.size (fun _ => True) (.slice Ao53 t283.length co53) t283) ∧ Aside0 (Below w.heap.size w wc))
                  case first =>
                    have H := HC52.out
                    clear HC52
                    by_cases c64 : t316 = 0
                    · rw [if_pos c64] at H
                      have c64b0 : (t316 == 0) = true := beq_iff_eq.mpr c64
                      have c64b1 : (t316 != 0) = false := bne_eq_false_iff_eq.mpr c64
                      clear c64
                      (first | rw [c64b0] | (simp only [i64_w, i32_w]; rw [c64b0]) | skip)
                      by_cases c65 : t327 = 0
                      · rw [if_pos c65] at H
                        have c65b0 : (t327 == 0) = true := beq_iff_eq.mpr c65
                        have c65b1 : (t327 != 0) = false := bne_eq_false_iff_eq.mpr c65
                        clear c65
                        replace H := Option.bind_eq_some_iff.mp H
                        obtain ⟨t330, A660, H⟩ := H
                        replace H : (if t330 = true then ((berthlaw02_Same.f kj38 t325 l1).bind fun t331 => (berthlaw02_QuantAway.j2 kj38 l0 l1 t283 (!t331))) else (berthlaw02_QuantAway.j2 kj38 l0 l1 t283 true)) = some r := H
                        have A66 := Aside0.mk A660
                        clear A660
                        by_cases c67 : t330 = true
                        · subst c67
                          have H1 : ((berthlaw02_Same.f kj38 t325 l1).bind fun t331 => (berthlaw02_QuantAway.j2 kj38 l0 l1 t283 (!t331))) = some r := by rw [if_pos rfl] at H; exact H
                          clear H
                          have H := H1
                          clear H1
                          replace H := Option.bind_eq_some_iff.mp H
                          obtain ⟨t331, A680, H⟩ := H
                          replace H : (berthlaw02_QuantAway.j2 kj38 l0 l1 t283 (!t331)) = some r := H
                          have A68 := Aside0.mk A680
                          clear A680
                          have H' := Aside0.mk H
                          clear H
                          obtain ⟨Ao69, co69, eo69⟩ := Kd.R_slice HO318.out
                          subst eo69
                          go_wp2_with (first | (go_at_call 21; (with_reducible refine (berthlaw02_Same.calls kj38 _ _ t314 _ _ l0 true _ ?side1 ?side2 ?side3 ?side4 A66.out).mono ?_); (case side1 => repeat (first | exact (Kd.R_reads' HO318.out).2.2 | (with_reducible refine Kd.C_alloc ?_ _) | (with_reducible refine Kd.C_drewN ?_ _) | (with_reducible refine Kd.C_drew ?_))); (case side2 => exact (Kd.R_reads' HO318.out).2.1); (case side3 => repeat (first | exact (Kd.C_below HR0.out HB.out) | (with_reducible refine Kd.C_alloc ?_ _) | (with_reducible refine Kd.C_drewN ?_ _) | (with_reducible refine Kd.C_drew ?_))); (case side4 => exact HC0.out); rintro e w' ⟨rfl, ⟨nd, rfl⟩⟩; obtain ⟨Ao70, co70, eo70⟩ := Kd.R_slice HO329.out; subst eo70) | (go_at_call 21; (with_reducible refine (berthlaw02_Same.calls kj38 _ _ t325 _ _ l1 t331 _ ?side1 ?side2 ?side3 ?side4 A68.out).mono ?_); (case side1 => repeat (first | exact (Kd.R_reads' HO329.out).2.2 | (with_reducible refine Kd.C_alloc ?_ _) | (with_reducible refine Kd.C_drewN ?_ _) | (with_reducible refine Kd.C_drew ?_))); (case side2 => exact (Kd.R_reads' HO329.out).2.1); (case side3 => repeat (first | exact (Kd.C_below HR1.out (by repeat (first | (with_reducible first | exact HB.out | apply below_alloc | apply pw_below_drewN | apply below_drew1) | exact HB.out))) | (with_reducible refine Kd.C_alloc ?_ _) | (with_reducible refine Kd.C_drewN ?_ _) | (with_reducible refine Kd.C_drew ?_))); (case side4 => exact HC1.out); rintro e w' ⟨rfl, ⟨nd, rfl⟩⟩))
                          go_meet
                          case rel => exact ⟨_, (!t331), (by first | rfl | (simp; done) | (simp [*]; done) | (simp only [i64_w]; done) | (simp [i64_w, Int.tdiv_eq_ediv_of_nonneg]; done)), H', ⟨by have := HJ10.out; have := HJ38.out; first | omega | exact Nat.le_refl _⟩, ⟨by (with_reducible repeat (first | apply Kd.R_alloc | apply Kd.R_drewN | apply Kd.R_drew)); exact Kd.R_mono HO_5.out (fun _ hk => trivial)⟩, ⟨by repeat (first | (with_reducible first | exact HB.out | apply below_alloc | apply pw_below_drewN | apply below_drew1) | exact HB.out)⟩⟩
                        · replace c67 := Bool.eq_false_iff.mpr c67
                          subst c67
                          have H1 : (berthlaw02_QuantAway.j2 kj38 l0 l1 t283 true) = some r := by rw [if_neg (show ¬ (false = true) by decide)] at H; exact H
                          clear H
                          have H := H1
                          clear H1
                          have H' := Aside0.mk H
                          clear H
                          obtain ⟨Ao71, co71, eo71⟩ := Kd.R_slice HO318.out
                          subst eo71
                          go_wp2_with (first | (go_at_call 21; (with_reducible refine (berthlaw02_Same.calls kj38 _ _ t314 _ _ l0 false _ ?side1 ?side2 ?side3 ?side4 A66.out).mono ?_); (case side1 => repeat (first | exact (Kd.R_reads' HO318.out).2.2 | (with_reducible refine Kd.C_alloc ?_ _) | (with_reducible refine Kd.C_drewN ?_ _) | (with_reducible refine Kd.C_drew ?_))); (case side2 => exact (Kd.R_reads' HO318.out).2.1); (case side3 => repeat (first | exact (Kd.C_below HR0.out HB.out) | (with_reducible refine Kd.C_alloc ?_ _) | (with_reducible refine Kd.C_drewN ?_ _) | (with_reducible refine Kd.C_drew ?_))); (case side4 => exact HC0.out); rintro e w' ⟨rfl, ⟨nd, rfl⟩⟩))
                          go_meet
                          case rel => exact ⟨_, (true), (by first | rfl | (simp; done) | (simp [*]; done) | (simp only [i64_w]; done) | (simp [i64_w, Int.tdiv_eq_ediv_of_nonneg]; done)), H', ⟨by have := HJ10.out; have := HJ38.out; first | omega | exact Nat.le_refl _⟩, ⟨by (with_reducible repeat (first | apply Kd.R_alloc | apply Kd.R_drewN | apply Kd.R_drew)); exact Kd.R_mono HO_5.out (fun _ hk => trivial)⟩, ⟨by repeat (first | (with_reducible first | exact HB.out | apply below_alloc | apply pw_below_drewN | apply below_drew1) | exact HB.out)⟩⟩
                      · rw [if_neg c65] at H
                        have c65b0 : (t327 == 0) = false := beq_eq_false_iff_ne.mpr c65
                        have c65b1 : (t327 != 0) = true := bne_iff_ne.mpr c65
                        have H' := Aside0.mk H
                        clear H
                        go_wp2
                        go_meet
                        case rel => exact ⟨_, (true), (by first | rfl | (simp; done) | (simp [*]; done) | (simp only [i64_w]; done) | (simp [i64_w, Int.tdiv_eq_ediv_of_nonneg]; done)), H', ⟨by have := HJ10.out; have := HJ38.out; first | omega | exact Nat.le_refl _⟩, ⟨by (with_reducible repeat (first | apply Kd.R_alloc | apply Kd.R_drewN | apply Kd.R_drew)); exact Kd.R_mono HO_5.out (fun _ hk => trivial)⟩, ⟨by repeat (first | (with_reducible first | exact HB.out | apply below_alloc | apply pw_below_drewN | apply below_drew1) | exact HB.out)⟩⟩
                    · rw [if_neg c64] at H
                      have c64b0 : (t316 == 0) = false := beq_eq_false_iff_ne.mpr c64
                      have c64b1 : (t316 != 0) = true := bne_iff_ne.mpr c64
                      (first | rw [c64b0] | (simp only [i64_w, i32_w]; rw [c64b0]) | skip)
                      have H' := Aside0.mk H
                      clear H
                      go_wp2
                      go_meet
                      case rel => exact ⟨_, (true), (by first | rfl | (simp; done) | (simp [*]; done) | (simp only [i64_w]; done) | (simp [i64_w, Int.tdiv_eq_ediv_of_nonneg]; done)), H', ⟨by have := HJ10.out; have := HJ38.out; first | omega | exact Nat.le_refl _⟩, ⟨by (with_reducible repeat (first | apply Kd.R_alloc | apply Kd.R_drewN | apply Kd.R_drew)); exact Kd.R_mono HO_5.out (fun _ hk => trivial)⟩, ⟨by repeat (first | (with_reducible first | exact HB.out | apply below_alloc | apply pw_below_drewN | apply below_drew1) | exact HB.out)⟩⟩
                  case rest =>
                    clear HC52
                    try clear c1
                    try clear c2
                    try clear p2
                    try clear c3
                    try clear c4
                    try clear c6
                    try clear c7
                    try clear c10
                    try clear c11
                    try clear c19
                    try clear c20
                    try clear c22
                    try clear c25
                    try clear c25b0
                    try clear c25b1
                    try clear c37
                    try clear c38
                    try clear c38b0
                    try clear c38b1
                    try clear c40
                    try clear c40b0
                    try clear c40b1
                    try clear c44
                    try clear c45
                    try clear c45b0
                    try clear c45b1
                    try clear c64
                    try clear c64b0
                    try clear c64b1
                    try clear c65
                    try clear c65b0
                    try clear c65b1
                    try clear c67
                    try clear p2
                    obtain ⟨kq, x109_51, rfl, HA, HJ51, HO_5, HB⟩ := hcut
                    cases kq with
                    | zero => exact absurd HA.out (by simp [berthlaw02_QuantAway.j2])
                    | succ kj51 =>
                      have H := HA.out
                      clear HA
                      simp only [berthlaw02_QuantAway.j2] at H
                      by_cases c72 : x109_51 = true
                      · subst c72
                        have H1 : (some false) = some r := by rw [if_pos rfl] at H; exact H
                        clear H
                        have H := H1
                        clear H1
                        obtain rfl := Option.some.inj H
                        go_wp2
                        go_ret
                        exact ⟨by first | rfl | (simp [errW_none, errW_some] <;> rfl) | (simp [*, errW_none, errW_some] <;> rfl), by repeat (first | (with_reducible first | exact HB.out | apply below_alloc | apply pw_below_drewN | apply below_drew1) | exact HB.out)⟩
                      · replace c72 := Bool.eq_false_iff.mpr c72
                        subst c72
                        have H1 : (berthlaw02_QuantAway.l0 kj51 l0 l1 t283 (t283.length : Int) 0) = some r := by rw [if_neg (show ¬ (false = true) by decide)] at H; exact H
                        clear H
                        have H := H1
                        clear H1
                        have H' := Aside0.mk H
                        clear H
                        go_wp2
                        go_loopg [112] kj51 (fun kq v112 w' => ∃ (x112_4 : Int), v112 = .int .i64 x112_4 ∧ Aside0 (berthlaw02_QuantAway.l0 kq l0 l1 t283 (t283.length : Int) x112_4 = some r) ∧ Aside0 (kq ≤ kj51) ∧ Aside0 (Kd.R k28 28 w' w.heap.size (fun _ => True) (.slice Ao53 t283.length co53) t283) ∧ Aside0 (Below w.heap.size w w'))
                        case atStart => exact ⟨(0), (by first | rfl | (simp; done) | (simp [*]; done) | (simp only [i64_w]; done) | (simp [i64_w, Int.tdiv_eq_ediv_of_nonneg]; done)), H', ⟨Nat.le_refl _⟩, ⟨by (with_reducible repeat (first | apply Kd.R_alloc | apply Kd.R_drewN | apply Kd.R_drew)); exact HO_5.out⟩, ⟨by repeat (first | (with_reducible first | exact HB.out | apply below_alloc | apply pw_below_drewN | apply below_drew1) | exact HB.out)⟩⟩
                        case round =>
                          clear H'
                          try clear c1
                          try clear c2
                          try clear p2
                          try clear c3
                          try clear c4
                          try clear c6
                          try clear c7
                          try clear c10
                          try clear c11
                          try clear c19
                          try clear c20
                          try clear c22
                          try clear c25
                          try clear c25b0
                          try clear c25b1
                          try clear c37
                          try clear c38
                          try clear c38b0
                          try clear c38b1
                          try clear c40
                          try clear c40b0
                          try clear c40b1
                          try clear c44
                          try clear c45
                          try clear c45b0
                          try clear c45b1
                          try clear c64
                          try clear c64b0
                          try clear c64b1
                          try clear c65
                          try clear c65b0
                          try clear c65b1
                          try clear c67
                          try clear c72
                          try clear p2
                          obtain ⟨x112_4, rfl, HA, HK4, HO_110, HB⟩ := hrel
                          cases gk with
                          | zero => exact absurd HA.out (by simp [berthlaw02_QuantAway.l0])
                          | succ k4 =>
                            have H := HA.out
                            clear HA
                            simp only [berthlaw02_QuantAway.l0] at H
                            by_cases c73 : x112_4 < (t283.length : Int)
                            · rw [if_pos c73] at H
                              have c73b0 : decide (x112_4 < (t283.length : Int)) = true := decide_eq_true c73
                              clear c73
                              by_cases c74 : 0 ≤ x112_4
                              · rw [if_pos c74] at H
                                have c74b0 : decide (0 ≤ x112_4) = true := decide_eq_true c74
                                clear c74
                                by_cases c75 : x112_4 < (t283.length : Int)
                                · rw [if_pos c75] at H
                                  have c75b0 : decide (x112_4 < (t283.length : Int)) = true := decide_eq_true c75
                                  clear c75
                                  replace H := Option.bind_eq_some_iff.mp H
                                  obtain ⟨t334, A760, H⟩ := H
                                  replace H : ((quant_Get.f k4 l1 ((rd_T28 t283 x112_4).f0)).bind fun t335 => (if t334 < 0 then (some false) else (if t335 < 0 then (some false) else (if t334 > ((rd_T28 t283 x112_4).f1) then (some false) else (if (wrap64 (((rd_T28 t283 x112_4).f1) - t334)) = t335 then (berthlaw02_QuantAway.l0 k4 l0 l1 t283 (t283.length : Int) (wrap64 (x112_4 + 1))) else (some false)))))) = some r := H
                                  have A76 := Aside0.mk A760
                                  clear A760
                                  replace H := Option.bind_eq_some_iff.mp H
                                  obtain ⟨t335, A770, H⟩ := H
                                  replace H : (if t334 < 0 then (some false) else (if t335 < 0 then (some false) else (if t334 > ((rd_T28 t283 x112_4).f1) then (some false) else (if (wrap64 (((rd_T28 t283 x112_4).f1) - t334)) = t335 then (berthlaw02_QuantAway.l0 k4 l0 l1 t283 (t283.length : Int) (wrap64 (x112_4 + 1))) else (some false))))) = some r := H
                                  have A77 := Aside0.mk A770
                                  clear A770
                                  by_cases c78 : t334 < 0
                                  · rw [if_pos c78] at H
                                    have c78b0 : decide (t334 < 0) = true := decide_eq_true c78
                                    clear c78
                                    obtain rfl := Option.some.inj H
                                    have p332 : 0 ≤ (x112_4 : Int) := of_decide_eq_true (by first | (with_reducible assumption) | assumption)
                                    have q332 : x112_4 < (t283.length : Int) := of_decide_eq_true (by first | (with_reducible assumption) | assumption)
                                    obtain ⟨ad332, e332, hx332_0, hx332_1⟩ := at_T28 (Kd.R_reads' HO_110.out).2.2 x112_4 p332 q332
                                    cases e332
                                    replace p332 := eq_true p332
                                    replace q332 := eq_true q332
                                    try go_wp2_with (first | ((with_reducible refine gate_dst (N := 18) rfl ?_); refine box_event ?hg (N := 18) ?hd (cs := #[.string (⟨#[]⟩ : ByteArray), .int .i64 0]) (t := 28) ?hr ?_; (case hd => rfl); (case hg => rfl); (case hr => first | (go_simp; done) | (go_simp; rfl)); intro gb333 hg w79 hbox hb; have n0_ := Aside0.mk (Kd.R_below (Kd.R_elderB (by (with_reducible repeat (first | apply Kd.R_alloc | apply Kd.R_drewN | apply Kd.R_drew)); exact HO_110.out) gb333 (Nat.le_of_eq hg.symm)) hb); have n1_ := Aside0.mk (below_step (by repeat (first | (with_reducible first | exact HB.out | apply below_alloc | apply pw_below_drewN | apply below_drew1) | exact HB.out)) hb); have n2_ := Aside0.mk (hbox); have n3_ := Aside0.mk ((by rw [hg]; exact (below_size (by repeat (first | (with_reducible first | exact HB.out | apply below_alloc | apply pw_below_drewN | apply below_drew1) | exact HB.out))) : w.heap.size ≤ gb333)); have n4_ := Aside0.mk ((by rw [hg]; exact (below_size (by repeat (first | (with_reducible first | exact HB.out | apply below_alloc | apply pw_below_drewN | apply below_drew1) | exact HB.out))) : w.heap.size ≤ gb333)); clear HO_110; clear HB; have HO_110 := n0_; have HB := n1_; have BK333 := n2_; have GW333 := n3_; have GE333 := n4_; clear n0_ n1_ n2_ n3_ n4_; clear hb hbox hg; have hcz80_0 : w79.cell? ⟨gb333, 0, none⟩ = some (.string (⟨#[]⟩ : ByteArray)) := (blk_cell BK333.out 0).trans rfl; have hcz80_1 : w79.cell? ⟨gb333, 1, none⟩ = some (.int .i64 0) := (blk_cell BK333.out 1).trans rfl; have hfz80_0 := blk_frozen BK333.out 0; have hfz80_1 := blk_frozen BK333.out 1))
                                    have n0_ : Aside0 (Kd.R k28 28 ((w79.setCell ⟨gb333, 0, none⟩ (.string ((rd_T28 t283 x112_4).f0))).setCell ⟨gb333, 1, none⟩ (.int .i64 ((rd_T28 t283 x112_4).f1))) w.heap.size (fun k_ => k_ ≠ gb333) (.slice (some ad332) t283.length co53) t283) := ⟨by (with_reducible repeat (first | apply Kd.R_alloc | apply Kd.R_drewN | apply Kd.R_drew)); exact Kd.R_mono (Kd.R_far (p := ⟨gb333, 1, none⟩) (Kd.R_far (p := ⟨gb333, 0, none⟩) (Kd.R_mono HO_110.out (fun k_ hk => (⟨hk, hk.2⟩ : _ ∧ k_ ≠ gb333))) (fun _ hk => hk.2) (.string ((rd_T28 t283 x112_4).f0))) (fun _ hk => hk.2) (.int .i64 ((rd_T28 t283 x112_4).f1))) (fun _ hk => hk.1.2)⟩
                                    have n1_ : Aside0 (((w79.setCell ⟨gb333, 0, none⟩ (.string ((rd_T28 t283 x112_4).f0))).setCell ⟨gb333, 1, none⟩ (.int .i64 ((rd_T28 t283 x112_4).f1))).heap[gb333]? = some (.cells #[.string ((rd_T28 t283 x112_4).f0), .int .i64 ((rd_T28 t283 x112_4).f1)] 28 (0, 0))) := ⟨by (with_reducible repeat (first | refine blk_drewN ?_ _ | refine blk_drew ?_ | refine blk_alloc ?_ _)); refine blk_put (cs := #[.string ((rd_T28 t283 x112_4).f0), .int .i64 0]) ?_ 1 _ rfl; (with_reducible repeat (first | refine blk_drewN ?_ _ | refine blk_drew ?_ | refine blk_alloc ?_ _)); refine blk_put (cs := #[.string (⟨#[]⟩ : ByteArray), .int .i64 0]) ?_ 0 _ rfl; (with_reducible repeat (first | refine blk_drewN ?_ _ | refine blk_drew ?_ | refine blk_alloc ?_ _)); exact BK333.out⟩
                                    have n2_ : Aside0 (Below w.heap.size w ((w79.setCell ⟨gb333, 0, none⟩ (.string ((rd_T28 t283 x112_4).f0))).setCell ⟨gb333, 1, none⟩ (.int .i64 ((rd_T28 t283 x112_4).f1)))) := ⟨by repeat (first | (with_reducible first | exact HB.out | apply below_alloc | apply pw_below_drewN | apply below_drew1 | refine below_set ?_ GE333.out) | exact HB.out)⟩
                                    (try clear HO_110)
                                    (try clear BK333)
                                    (try clear HB)
                                    generalize ((w79.setCell ⟨gb333, 0, none⟩ (.string ((rd_T28 t283 x112_4).f0))).setCell ⟨gb333, 1, none⟩ (.int .i64 ((rd_T28 t283 x112_4).f1))) = w81 at n0_ n1_ n2_ ⊢
                                    have HO_110 := n0_
                                    have BK333 := n1_
                                    have HB := n2_
                                    clear n0_ n1_ n2_
                                    have n0_ := Aside0.mk (Kd.R_drew HO_110.out)
                                    have n1_ := Aside0.mk (blk_drew BK333.out)
                                    have n2_ := Aside0.mk (below_drew1 HB.out)
                                    clear HO_110
                                    clear BK333
                                    clear HB
                                    have HO_110 := n0_
                                    have BK333 := n1_
                                    have HB := n2_
                                    clear n0_ n1_ n2_
                                    refine start_ (n := 10) (S := fun w' => w'.cell? ⟨gb333, 0, none⟩ = some (.string ((rd_T28 t283 x112_4).f0)) ∧ w'.cell? ⟨gb333, 1, none⟩ = some (.int .i64 ((rd_T28 t283 x112_4).f1))) (ds := []) #[false, false, false, false, false, false, false, false, false, false] (by kernel_rfl) rfl rfl ⟨(blk_cell BK333.out 0).trans rfl, (blk_cell BK333.out 1).trans rfl⟩ (fun hHeld => ?_); refine with_tabW berthlaw02_QuantAway.tab18 berthlaw02_QuantAway.bits18 (fun HT_ HW_ => ?_)
                                    generalize w81.drew = w82 at HO_110 BK333 HB hHeld ⊢
                                    refine pure_ (i := 0) (N := some 116) (v := ?_) (a' := ?_) #[true, false, false, false, false, false, false, false, false, false] rfl rfl (any_of HT_.out (by kernel_rfl)) (fun _ _ _ h => h) (Or.inl ⟨by rfl, ?_⟩) ?_ ?_
                                    rotate_left
                                    · intro w'
                                      go_simp
                                      with_reducible rfl
                                    rotate_left
                                    · simp only [Act.put, List.setIfInBounds_toArray, List.set_cons_zero, List.set_cons_succ, i64_w, i32_w]
                                      rfl
                                    refine pure_ (i := 1) (N := some 117) (v := ?_) (a' := ?_) #[true, true, false, false, false, false, false, false, false, false] rfl rfl (any_of HT_.out (by kernel_rfl)) (fun _ _ _ h => h) (Or.inl ⟨by rfl, ?_⟩) ?_ ?_
                                    rotate_left
                                    · intro w'
                                      go_simp
                                      with_reducible rfl
                                    rotate_left
                                    · simp only [Act.put, List.setIfInBounds_toArray, List.set_cons_zero, List.set_cons_succ, i64_w, i32_w]
                                      rfl
                                    refine pure_ (i := 4) (N := some 120) (v := ?_) (a' := ?_) #[true, true, false, false, true, false, false, false, false, false] rfl rfl (any_of HT_.out (by kernel_rfl)) (fun _ _ _ h => h) (Or.inl ⟨by rfl, ?_⟩) ?_ ?_
                                    rotate_left
                                    · intro w'
                                      go_simp
                                      with_reducible rfl
                                    rotate_left
                                    · simp only [Act.put, List.setIfInBounds_toArray, List.set_cons_zero, List.set_cons_succ, i64_w, i32_w]
                                      rfl
                                    refine pure_ (i := 5) (N := some 121) (v := ?_) (a' := ?_) #[true, true, false, false, true, true, false, false, false, false] rfl rfl (any_of HT_.out (by kernel_rfl)) (fun _ _ _ h => h) (Or.inl ⟨by rfl, ?_⟩) ?_ ?_
                                    rotate_left
                                    · intro w'
                                      go_simp
                                      with_reducible rfl
                                    rotate_left
                                    · simp only [Act.put, List.setIfInBounds_toArray, List.set_cons_zero, List.set_cons_succ, i64_w, i32_w]
                                      rfl
                                    refine take_ (i := 2) (N := some 118) (v := ?_) (a' := ?_) #[true, true, true, false, true, true, false, false, false, false] rfl rfl (take_ofW HT_.out HW_.out (by kernel_rfl)) (fun _ _ _ h => h) (Or.inl ⟨by rfl, ?_⟩) hHeld ?_ ?_
                                    rotate_left
                                    · rintro w' ⟨s0, s1⟩
                                      go_simp
                                      with_reducible rfl
                                    rotate_left
                                    · simp only [Act.put, List.setIfInBounds_toArray, List.set_cons_zero, List.set_cons_succ, i64_w, i32_w]
                                      rfl
                                    refine take_ (i := 6) (N := some 122) (v := ?_) (a' := ?_) #[true, true, true, false, true, true, true, false, false, false] rfl rfl (take_ofW HT_.out HW_.out (by kernel_rfl)) (fun _ _ _ h => h) (Or.inl ⟨by rfl, ?_⟩) hHeld ?_ ?_
                                    rotate_left
                                    · rintro w' ⟨s0, s1⟩
                                      go_simp
                                      with_reducible rfl
                                    rotate_left
                                    · simp only [Act.put, List.setIfInBounds_toArray, List.set_cons_zero, List.set_cons_succ, i64_w, i32_w]
                                      rfl
                                    refine one_ (i := 3) (N := some 119) #[true, true, true, true, true, true, true, false, false, false] rfl rfl (one_of HT_.out (by kernel_rfl)) (by decide) (fun K hK => ?_)
                                    refine goes_ Try.func12 (by kernel_rfl) rfl #[.slice A0 l0.length c0, .string ((rd_T28 t283 x112_4).f0)] (by rfl) rfl rfl (by (try simp only [List.map_toArray, List.map_cons, List.map_nil]); first | done | rfl | (simp only [List.length_drop, List.length_take]; rfl)) ?_
                                    with_reducible refine (quant_Get.calls k4 _ _ l0 ((rd_T28 t283 x112_4).f0) t334 _ ?side1 ?side2 A76.out).mono ?_
                                    (case side1 => repeat (first | exact (Kd.C_below HR0.out HB.out) | (with_reducible refine Kd.C_alloc ?_ _) | (with_reducible refine Kd.C_drewN ?_ _) | (with_reducible refine Kd.C_drew ?_)))
                                    (case side2 => exact HC0.out)
                                    rintro e w83 ⟨rfl, hb⟩
                                    refine ⟨_, rfl, ?_⟩
                                    have n0_ := Aside0.mk (Kd.R_below (by (with_reducible repeat (first | apply Kd.R_alloc | apply Kd.R_drewN | apply Kd.R_drew)); exact HO_110.out) hb)
                                    have n1_ := Aside0.mk (blk_below (g := gb333) (o := .cells #[.string ((rd_T28 t283 x112_4).f0), .int .i64 ((rd_T28 t283 x112_4).f1)] 28 (0, 0)) (by (with_reducible repeat (first | refine blk_drewN ?_ _ | refine blk_drew ?_ | refine blk_alloc ?_ _)); exact BK333.out) hb)
                                    have n2_ := Aside0.mk (below_step (by repeat (first | (with_reducible first | exact HB.out | apply below_alloc | apply pw_below_drewN | apply below_drew1 | refine below_set ?_ GE333.out) | exact HB.out)) hb)
                                    clear HO_110
                                    clear BK333
                                    clear HB
                                    have HO_110 := n0_
                                    have BK333 := n1_
                                    have HB := n2_
                                    clear n0_ n1_ n2_
                                    (try clear hb)
                                    (try clear hb2)
                                    (try clear hk)
                                    (try clear hi)
                                    refine hK.out _ _ ⟨(blk_cell BK333.out 0).trans rfl, (blk_cell BK333.out 1).trans rfl⟩ (fun hHeld => ?_)
                                    clear hK K
                                    refine norm_ (a' := ?_) ?_ ?_
                                    rotate_left
                                    · show Act.put _ (some 119) _ = _
                                      simp only [Act.put, List.setIfInBounds_toArray, List.set_cons_zero, List.set_cons_succ, i64_w, i32_w]
                                      rfl
                                    refine one_ (i := 7) (N := some 123) #[true, true, true, true, true, true, true, true, false, false] rfl rfl (one_of HT_.out (by kernel_rfl)) (by decide) (fun K hK => ?_)
                                    refine goes_ Try.func12 (by kernel_rfl) rfl #[.slice A1 l1.length c1, .string ((rd_T28 t283 x112_4).f0)] (by rfl) rfl rfl (by (try simp only [List.map_toArray, List.map_cons, List.map_nil]); first | done | rfl | (simp only [List.length_drop, List.length_take]; rfl)) ?_
                                    with_reducible refine (quant_Get.calls k4 _ _ l1 ((rd_T28 t283 x112_4).f0) t335 _ ?side1 ?side2 A77.out).mono ?_
                                    (case side1 => repeat (first | exact (Kd.C_below HR1.out HB.out) | (with_reducible refine Kd.C_alloc ?_ _) | (with_reducible refine Kd.C_drewN ?_ _) | (with_reducible refine Kd.C_drew ?_)))
                                    (case side2 => exact HC1.out)
                                    rintro e w84 ⟨rfl, hb⟩
                                    refine ⟨_, rfl, ?_⟩
                                    have n0_ := Aside0.mk (Kd.R_below (by (with_reducible repeat (first | apply Kd.R_alloc | apply Kd.R_drewN | apply Kd.R_drew)); exact HO_110.out) hb)
                                    have n1_ := Aside0.mk (blk_below (g := gb333) (o := .cells #[.string ((rd_T28 t283 x112_4).f0), .int .i64 ((rd_T28 t283 x112_4).f1)] 28 (0, 0)) (by (with_reducible repeat (first | refine blk_drewN ?_ _ | refine blk_drew ?_ | refine blk_alloc ?_ _)); exact BK333.out) hb)
                                    have n2_ := Aside0.mk (below_step (by repeat (first | (with_reducible first | exact HB.out | apply below_alloc | apply pw_below_drewN | apply below_drew1 | refine below_set ?_ GE333.out) | exact HB.out)) hb)
                                    clear HO_110
                                    clear BK333
                                    clear HB
                                    have HO_110 := n0_
                                    have BK333 := n1_
                                    have HB := n2_
                                    clear n0_ n1_ n2_
                                    (try clear hb)
                                    (try clear hb2)
                                    (try clear hk)
                                    (try clear hi)
                                    refine hK.out _ _ ⟨(blk_cell BK333.out 0).trans rfl, (blk_cell BK333.out 1).trans rfl⟩ (fun hHeld => ?_)
                                    clear hK K
                                    refine norm_ (a' := ?_) ?_ ?_
                                    rotate_left
                                    · show Act.put _ (some 123) _ = _
                                      simp only [Act.put, List.setIfInBounds_toArray, List.set_cons_zero, List.set_cons_succ, i64_w, i32_w]
                                      rfl
                                    refine pure_ (i := 8) (N := some 19) (v := ?_) (a' := ?_) #[true, true, true, true, true, true, true, true, true, false] rfl rfl (any_of HT_.out (by kernel_rfl)) (fun _ _ _ h => h) (Or.inl ⟨by rfl, ?_⟩) ?_ ?_
                                    rotate_left
                                    · intro w'
                                      go_simp
                                      with_reducible rfl
                                    rotate_left
                                    · simp only [Act.put, List.setIfInBounds_toArray, List.set_cons_zero, List.set_cons_succ, i64_w, i32_w]
                                      rfl
                                    refine pure_ (i := 9) (N := some 20) (v := ?_) (a' := ?_) #[true, true, true, true, true, true, true, true, true, true] rfl rfl (any_of HT_.out (by kernel_rfl)) (fun _ _ _ h => h) (Or.inl ⟨by rfl, ?_⟩) ?_ ?_
                                    rotate_left
                                    · intro w'
                                      go_simp
                                      with_reducible rfl
                                    rotate_left
                                    · simp only [Act.put, List.setIfInBounds_toArray, List.set_cons_zero, List.set_cons_succ, i64_w, i32_w]
                                      rfl
                                    refine done_ (done_of HT_.out (by kernel_rfl)) ?_
                                    try go_wp2
                                    go_ret
                                    exact ⟨by first | rfl | (simp [errW_none, errW_some] <;> rfl) | (simp [*, errW_none, errW_some] <;> rfl), by repeat (first | (with_reducible first | exact HB.out | apply below_alloc | apply pw_below_drewN | apply below_drew1 | refine below_set ?_ GE333.out) | exact HB.out)⟩
                                  · rw [if_neg c78] at H
                                    have c78b0 : decide (t334 < 0) = false := decide_eq_false c78
                                    clear c78
                                    by_cases c85 : t335 < 0
                                    · rw [if_pos c85] at H
                                      have c85b0 : decide (t335 < 0) = true := decide_eq_true c85
                                      clear c85
                                      obtain rfl := Option.some.inj H
                                      have p332 : 0 ≤ (x112_4 : Int) := of_decide_eq_true (by first | (with_reducible assumption) | assumption)
                                      have q332 : x112_4 < (t283.length : Int) := of_decide_eq_true (by first | (with_reducible assumption) | assumption)
                                      obtain ⟨ad332, e332, hx332_0, hx332_1⟩ := at_T28 (Kd.R_reads' HO_110.out).2.2 x112_4 p332 q332
                                      cases e332
                                      replace p332 := eq_true p332
                                      replace q332 := eq_true q332
                                      try go_wp2_with (first | ((with_reducible refine gate_dst (N := 18) rfl ?_); refine box_event ?hg (N := 18) ?hd (cs := #[.string (⟨#[]⟩ : ByteArray), .int .i64 0]) (t := 28) ?hr ?_; (case hd => rfl); (case hg => rfl); (case hr => first | (go_simp; done) | (go_simp; rfl)); intro gb333 hg w86 hbox hb; have n0_ := Aside0.mk (Kd.R_below (Kd.R_elderB (by (with_reducible repeat (first | apply Kd.R_alloc | apply Kd.R_drewN | apply Kd.R_drew)); exact HO_110.out) gb333 (Nat.le_of_eq hg.symm)) hb); have n1_ := Aside0.mk (below_step (by repeat (first | (with_reducible first | exact HB.out | apply below_alloc | apply pw_below_drewN | apply below_drew1) | exact HB.out)) hb); have n2_ := Aside0.mk (hbox); have n3_ := Aside0.mk ((by rw [hg]; exact (below_size (by repeat (first | (with_reducible first | exact HB.out | apply below_alloc | apply pw_below_drewN | apply below_drew1) | exact HB.out))) : w.heap.size ≤ gb333)); have n4_ := Aside0.mk ((by rw [hg]; exact (below_size (by repeat (first | (with_reducible first | exact HB.out | apply below_alloc | apply pw_below_drewN | apply below_drew1) | exact HB.out))) : w.heap.size ≤ gb333)); clear HO_110; clear HB; have HO_110 := n0_; have HB := n1_; have BK333 := n2_; have GW333 := n3_; have GE333 := n4_; clear n0_ n1_ n2_ n3_ n4_; clear hb hbox hg; have hcz87_0 : w86.cell? ⟨gb333, 0, none⟩ = some (.string (⟨#[]⟩ : ByteArray)) := (blk_cell BK333.out 0).trans rfl; have hcz87_1 : w86.cell? ⟨gb333, 1, none⟩ = some (.int .i64 0) := (blk_cell BK333.out 1).trans rfl; have hfz87_0 := blk_frozen BK333.out 0; have hfz87_1 := blk_frozen BK333.out 1))
                                      have n0_ : Aside0 (Kd.R k28 28 ((w86.setCell ⟨gb333, 0, none⟩ (.string ((rd_T28 t283 x112_4).f0))).setCell ⟨gb333, 1, none⟩ (.int .i64 ((rd_T28 t283 x112_4).f1))) w.heap.size (fun k_ => k_ ≠ gb333) (.slice (some ad332) t283.length co53) t283) := ⟨by (with_reducible repeat (first | apply Kd.R_alloc | apply Kd.R_drewN | apply Kd.R_drew)); exact Kd.R_mono (Kd.R_far (p := ⟨gb333, 1, none⟩) (Kd.R_far (p := ⟨gb333, 0, none⟩) (Kd.R_mono HO_110.out (fun k_ hk => (⟨hk, hk.2⟩ : _ ∧ k_ ≠ gb333))) (fun _ hk => hk.2) (.string ((rd_T28 t283 x112_4).f0))) (fun _ hk => hk.2) (.int .i64 ((rd_T28 t283 x112_4).f1))) (fun _ hk => hk.1.2)⟩
                                      have n1_ : Aside0 (((w86.setCell ⟨gb333, 0, none⟩ (.string ((rd_T28 t283 x112_4).f0))).setCell ⟨gb333, 1, none⟩ (.int .i64 ((rd_T28 t283 x112_4).f1))).heap[gb333]? = some (.cells #[.string ((rd_T28 t283 x112_4).f0), .int .i64 ((rd_T28 t283 x112_4).f1)] 28 (0, 0))) := ⟨by (with_reducible repeat (first | refine blk_drewN ?_ _ | refine blk_drew ?_ | refine blk_alloc ?_ _)); refine blk_put (cs := #[.string ((rd_T28 t283 x112_4).f0), .int .i64 0]) ?_ 1 _ rfl; (with_reducible repeat (first | refine blk_drewN ?_ _ | refine blk_drew ?_ | refine blk_alloc ?_ _)); refine blk_put (cs := #[.string (⟨#[]⟩ : ByteArray), .int .i64 0]) ?_ 0 _ rfl; (with_reducible repeat (first | refine blk_drewN ?_ _ | refine blk_drew ?_ | refine blk_alloc ?_ _)); exact BK333.out⟩
                                      have n2_ : Aside0 (Below w.heap.size w ((w86.setCell ⟨gb333, 0, none⟩ (.string ((rd_T28 t283 x112_4).f0))).setCell ⟨gb333, 1, none⟩ (.int .i64 ((rd_T28 t283 x112_4).f1)))) := ⟨by repeat (first | (with_reducible first | exact HB.out | apply below_alloc | apply pw_below_drewN | apply below_drew1 | refine below_set ?_ GE333.out) | exact HB.out)⟩
                                      (try clear HO_110)
                                      (try clear BK333)
                                      (try clear HB)
                                      generalize ((w86.setCell ⟨gb333, 0, none⟩ (.string ((rd_T28 t283 x112_4).f0))).setCell ⟨gb333, 1, none⟩ (.int .i64 ((rd_T28 t283 x112_4).f1))) = w88 at n0_ n1_ n2_ ⊢
                                      have HO_110 := n0_
                                      have BK333 := n1_
                                      have HB := n2_
                                      clear n0_ n1_ n2_
                                      have n0_ := Aside0.mk (Kd.R_drew HO_110.out)
                                      have n1_ := Aside0.mk (blk_drew BK333.out)
                                      have n2_ := Aside0.mk (below_drew1 HB.out)
                                      clear HO_110
                                      clear BK333
                                      clear HB
                                      have HO_110 := n0_
                                      have BK333 := n1_
                                      have HB := n2_
                                      clear n0_ n1_ n2_
                                      refine start_ (n := 10) (S := fun w' => w'.cell? ⟨gb333, 0, none⟩ = some (.string ((rd_T28 t283 x112_4).f0)) ∧ w'.cell? ⟨gb333, 1, none⟩ = some (.int .i64 ((rd_T28 t283 x112_4).f1))) (ds := []) #[false, false, false, false, false, false, false, false, false, false] (by kernel_rfl) rfl rfl ⟨(blk_cell BK333.out 0).trans rfl, (blk_cell BK333.out 1).trans rfl⟩ (fun hHeld => ?_); refine with_tabW berthlaw02_QuantAway.tab18 berthlaw02_QuantAway.bits18 (fun HT_ HW_ => ?_)
                                      generalize w88.drew = w89 at HO_110 BK333 HB hHeld ⊢
                                      refine pure_ (i := 0) (N := some 116) (v := ?_) (a' := ?_) #[true, false, false, false, false, false, false, false, false, false] rfl rfl (any_of HT_.out (by kernel_rfl)) (fun _ _ _ h => h) (Or.inl ⟨by rfl, ?_⟩) ?_ ?_
                                      rotate_left
                                      · intro w'
                                        go_simp
                                        with_reducible rfl
                                      rotate_left
                                      · simp only [Act.put, List.setIfInBounds_toArray, List.set_cons_zero, List.set_cons_succ, i64_w, i32_w]
                                        rfl
                                      refine pure_ (i := 1) (N := some 117) (v := ?_) (a' := ?_) #[true, true, false, false, false, false, false, false, false, false] rfl rfl (any_of HT_.out (by kernel_rfl)) (fun _ _ _ h => h) (Or.inl ⟨by rfl, ?_⟩) ?_ ?_
                                      rotate_left
                                      · intro w'
                                        go_simp
                                        with_reducible rfl
                                      rotate_left
                                      · simp only [Act.put, List.setIfInBounds_toArray, List.set_cons_zero, List.set_cons_succ, i64_w, i32_w]
                                        rfl
                                      refine pure_ (i := 4) (N := some 120) (v := ?_) (a' := ?_) #[true, true, false, false, true, false, false, false, false, false] rfl rfl (any_of HT_.out (by kernel_rfl)) (fun _ _ _ h => h) (Or.inl ⟨by rfl, ?_⟩) ?_ ?_
                                      rotate_left
                                      · intro w'
                                        go_simp
                                        with_reducible rfl
                                      rotate_left
                                      · simp only [Act.put, List.setIfInBounds_toArray, List.set_cons_zero, List.set_cons_succ, i64_w, i32_w]
                                        rfl
                                      refine pure_ (i := 5) (N := some 121) (v := ?_) (a' := ?_) #[true, true, false, false, true, true, false, false, false, false] rfl rfl (any_of HT_.out (by kernel_rfl)) (fun _ _ _ h => h) (Or.inl ⟨by rfl, ?_⟩) ?_ ?_
                                      rotate_left
                                      · intro w'
                                        go_simp
                                        with_reducible rfl
                                      rotate_left
                                      · simp only [Act.put, List.setIfInBounds_toArray, List.set_cons_zero, List.set_cons_succ, i64_w, i32_w]
                                        rfl
                                      refine take_ (i := 2) (N := some 118) (v := ?_) (a' := ?_) #[true, true, true, false, true, true, false, false, false, false] rfl rfl (take_ofW HT_.out HW_.out (by kernel_rfl)) (fun _ _ _ h => h) (Or.inl ⟨by rfl, ?_⟩) hHeld ?_ ?_
                                      rotate_left
                                      · rintro w' ⟨s0, s1⟩
                                        go_simp
                                        with_reducible rfl
                                      rotate_left
                                      · simp only [Act.put, List.setIfInBounds_toArray, List.set_cons_zero, List.set_cons_succ, i64_w, i32_w]
                                        rfl
                                      refine take_ (i := 6) (N := some 122) (v := ?_) (a' := ?_) #[true, true, true, false, true, true, true, false, false, false] rfl rfl (take_ofW HT_.out HW_.out (by kernel_rfl)) (fun _ _ _ h => h) (Or.inl ⟨by rfl, ?_⟩) hHeld ?_ ?_
                                      rotate_left
                                      · rintro w' ⟨s0, s1⟩
                                        go_simp
                                        with_reducible rfl
                                      rotate_left
                                      · simp only [Act.put, List.setIfInBounds_toArray, List.set_cons_zero, List.set_cons_succ, i64_w, i32_w]
                                        rfl
                                      refine one_ (i := 3) (N := some 119) #[true, true, true, true, true, true, true, false, false, false] rfl rfl (one_of HT_.out (by kernel_rfl)) (by decide) (fun K hK => ?_)
                                      refine goes_ Try.func12 (by kernel_rfl) rfl #[.slice A0 l0.length c0, .string ((rd_T28 t283 x112_4).f0)] (by rfl) rfl rfl (by (try simp only [List.map_toArray, List.map_cons, List.map_nil]); first | done | rfl | (simp only [List.length_drop, List.length_take]; rfl)) ?_
                                      with_reducible refine (quant_Get.calls k4 _ _ l0 ((rd_T28 t283 x112_4).f0) t334 _ ?side1 ?side2 A76.out).mono ?_
                                      (case side1 => repeat (first | exact (Kd.C_below HR0.out HB.out) | (with_reducible refine Kd.C_alloc ?_ _) | (with_reducible refine Kd.C_drewN ?_ _) | (with_reducible refine Kd.C_drew ?_)))
                                      (case side2 => exact HC0.out)
                                      rintro e w90 ⟨rfl, hb⟩
                                      refine ⟨_, rfl, ?_⟩
                                      have n0_ := Aside0.mk (Kd.R_below (by (with_reducible repeat (first | apply Kd.R_alloc | apply Kd.R_drewN | apply Kd.R_drew)); exact HO_110.out) hb)
                                      have n1_ := Aside0.mk (blk_below (g := gb333) (o := .cells #[.string ((rd_T28 t283 x112_4).f0), .int .i64 ((rd_T28 t283 x112_4).f1)] 28 (0, 0)) (by (with_reducible repeat (first | refine blk_drewN ?_ _ | refine blk_drew ?_ | refine blk_alloc ?_ _)); exact BK333.out) hb)
                                      have n2_ := Aside0.mk (below_step (by repeat (first | (with_reducible first | exact HB.out | apply below_alloc | apply pw_below_drewN | apply below_drew1 | refine below_set ?_ GE333.out) | exact HB.out)) hb)
                                      clear HO_110
                                      clear BK333
                                      clear HB
                                      have HO_110 := n0_
                                      have BK333 := n1_
                                      have HB := n2_
                                      clear n0_ n1_ n2_
                                      (try clear hb)
                                      (try clear hb2)
                                      (try clear hk)
                                      (try clear hi)
                                      refine hK.out _ _ ⟨(blk_cell BK333.out 0).trans rfl, (blk_cell BK333.out 1).trans rfl⟩ (fun hHeld => ?_)
                                      clear hK K
                                      refine norm_ (a' := ?_) ?_ ?_
                                      rotate_left
                                      · show Act.put _ (some 119) _ = _
                                        simp only [Act.put, List.setIfInBounds_toArray, List.set_cons_zero, List.set_cons_succ, i64_w, i32_w]
                                        rfl
                                      refine one_ (i := 7) (N := some 123) #[true, true, true, true, true, true, true, true, false, false] rfl rfl (one_of HT_.out (by kernel_rfl)) (by decide) (fun K hK => ?_)
                                      refine goes_ Try.func12 (by kernel_rfl) rfl #[.slice A1 l1.length c1, .string ((rd_T28 t283 x112_4).f0)] (by rfl) rfl rfl (by (try simp only [List.map_toArray, List.map_cons, List.map_nil]); first | done | rfl | (simp only [List.length_drop, List.length_take]; rfl)) ?_
                                      with_reducible refine (quant_Get.calls k4 _ _ l1 ((rd_T28 t283 x112_4).f0) t335 _ ?side1 ?side2 A77.out).mono ?_
                                      (case side1 => repeat (first | exact (Kd.C_below HR1.out HB.out) | (with_reducible refine Kd.C_alloc ?_ _) | (with_reducible refine Kd.C_drewN ?_ _) | (with_reducible refine Kd.C_drew ?_)))
                                      (case side2 => exact HC1.out)
                                      rintro e w91 ⟨rfl, hb⟩
                                      refine ⟨_, rfl, ?_⟩
                                      have n0_ := Aside0.mk (Kd.R_below (by (with_reducible repeat (first | apply Kd.R_alloc | apply Kd.R_drewN | apply Kd.R_drew)); exact HO_110.out) hb)
                                      have n1_ := Aside0.mk (blk_below (g := gb333) (o := .cells #[.string ((rd_T28 t283 x112_4).f0), .int .i64 ((rd_T28 t283 x112_4).f1)] 28 (0, 0)) (by (with_reducible repeat (first | refine blk_drewN ?_ _ | refine blk_drew ?_ | refine blk_alloc ?_ _)); exact BK333.out) hb)
                                      have n2_ := Aside0.mk (below_step (by repeat (first | (with_reducible first | exact HB.out | apply below_alloc | apply pw_below_drewN | apply below_drew1 | refine below_set ?_ GE333.out) | exact HB.out)) hb)
                                      clear HO_110
                                      clear BK333
                                      clear HB
                                      have HO_110 := n0_
                                      have BK333 := n1_
                                      have HB := n2_
                                      clear n0_ n1_ n2_
                                      (try clear hb)
                                      (try clear hb2)
                                      (try clear hk)
                                      (try clear hi)
                                      refine hK.out _ _ ⟨(blk_cell BK333.out 0).trans rfl, (blk_cell BK333.out 1).trans rfl⟩ (fun hHeld => ?_)
                                      clear hK K
                                      refine norm_ (a' := ?_) ?_ ?_
                                      rotate_left
                                      · show Act.put _ (some 123) _ = _
                                        simp only [Act.put, List.setIfInBounds_toArray, List.set_cons_zero, List.set_cons_succ, i64_w, i32_w]
                                        rfl
                                      refine pure_ (i := 8) (N := some 19) (v := ?_) (a' := ?_) #[true, true, true, true, true, true, true, true, true, false] rfl rfl (any_of HT_.out (by kernel_rfl)) (fun _ _ _ h => h) (Or.inl ⟨by rfl, ?_⟩) ?_ ?_
                                      rotate_left
                                      · intro w'
                                        go_simp
                                        with_reducible rfl
                                      rotate_left
                                      · simp only [Act.put, List.setIfInBounds_toArray, List.set_cons_zero, List.set_cons_succ, i64_w, i32_w]
                                        rfl
                                      refine pure_ (i := 9) (N := some 20) (v := ?_) (a' := ?_) #[true, true, true, true, true, true, true, true, true, true] rfl rfl (any_of HT_.out (by kernel_rfl)) (fun _ _ _ h => h) (Or.inl ⟨by rfl, ?_⟩) ?_ ?_
                                      rotate_left
                                      · intro w'
                                        go_simp
                                        with_reducible rfl
                                      rotate_left
                                      · simp only [Act.put, List.setIfInBounds_toArray, List.set_cons_zero, List.set_cons_succ, i64_w, i32_w]
                                        rfl
                                      refine done_ (done_of HT_.out (by kernel_rfl)) ?_
                                      try go_wp2
                                      go_ret
                                      exact ⟨by first | rfl | (simp [errW_none, errW_some] <;> rfl) | (simp [*, errW_none, errW_some] <;> rfl), by repeat (first | (with_reducible first | exact HB.out | apply below_alloc | apply pw_below_drewN | apply below_drew1 | refine below_set ?_ GE333.out) | exact HB.out)⟩
                                    · rw [if_neg c85] at H
                                      have c85b0 : decide (t335 < 0) = false := decide_eq_false c85
                                      clear c85
                                      by_cases c92 : t334 > ((rd_T28 t283 x112_4).f1)
                                      · rw [if_pos c92] at H
                                        have c92b0 : decide (((rd_T28 t283 x112_4).f1) < t334) = true := decide_eq_true c92
                                        clear c92
                                        obtain rfl := Option.some.inj H
                                        have p332 : 0 ≤ (x112_4 : Int) := of_decide_eq_true (by first | (with_reducible assumption) | assumption)
                                        have q332 : x112_4 < (t283.length : Int) := of_decide_eq_true (by first | (with_reducible assumption) | assumption)
                                        obtain ⟨ad332, e332, hx332_0, hx332_1⟩ := at_T28 (Kd.R_reads' HO_110.out).2.2 x112_4 p332 q332
                                        cases e332
                                        replace p332 := eq_true p332
                                        replace q332 := eq_true q332
                                        try go_wp2_with (first | ((with_reducible refine gate_dst (N := 18) rfl ?_); refine box_event ?hg (N := 18) ?hd (cs := #[.string (⟨#[]⟩ : ByteArray), .int .i64 0]) (t := 28) ?hr ?_; (case hd => rfl); (case hg => rfl); (case hr => first | (go_simp; done) | (go_simp; rfl)); intro gb333 hg w93 hbox hb; have n0_ := Aside0.mk (Kd.R_below (Kd.R_elderB (by (with_reducible repeat (first | apply Kd.R_alloc | apply Kd.R_drewN | apply Kd.R_drew)); exact HO_110.out) gb333 (Nat.le_of_eq hg.symm)) hb); have n1_ := Aside0.mk (below_step (by repeat (first | (with_reducible first | exact HB.out | apply below_alloc | apply pw_below_drewN | apply below_drew1) | exact HB.out)) hb); have n2_ := Aside0.mk (hbox); have n3_ := Aside0.mk ((by rw [hg]; exact (below_size (by repeat (first | (with_reducible first | exact HB.out | apply below_alloc | apply pw_below_drewN | apply below_drew1) | exact HB.out))) : w.heap.size ≤ gb333)); have n4_ := Aside0.mk ((by rw [hg]; exact (below_size (by repeat (first | (with_reducible first | exact HB.out | apply below_alloc | apply pw_below_drewN | apply below_drew1) | exact HB.out))) : w.heap.size ≤ gb333)); clear HO_110; clear HB; have HO_110 := n0_; have HB := n1_; have BK333 := n2_; have GW333 := n3_; have GE333 := n4_; clear n0_ n1_ n2_ n3_ n4_; clear hb hbox hg; have hcz94_0 : w93.cell? ⟨gb333, 0, none⟩ = some (.string (⟨#[]⟩ : ByteArray)) := (blk_cell BK333.out 0).trans rfl; have hcz94_1 : w93.cell? ⟨gb333, 1, none⟩ = some (.int .i64 0) := (blk_cell BK333.out 1).trans rfl; have hfz94_0 := blk_frozen BK333.out 0; have hfz94_1 := blk_frozen BK333.out 1))
                                        have n0_ : Aside0 (Kd.R k28 28 ((w93.setCell ⟨gb333, 0, none⟩ (.string ((rd_T28 t283 x112_4).f0))).setCell ⟨gb333, 1, none⟩ (.int .i64 ((rd_T28 t283 x112_4).f1))) w.heap.size (fun k_ => k_ ≠ gb333) (.slice (some ad332) t283.length co53) t283) := ⟨by (with_reducible repeat (first | apply Kd.R_alloc | apply Kd.R_drewN | apply Kd.R_drew)); exact Kd.R_mono (Kd.R_far (p := ⟨gb333, 1, none⟩) (Kd.R_far (p := ⟨gb333, 0, none⟩) (Kd.R_mono HO_110.out (fun k_ hk => (⟨hk, hk.2⟩ : _ ∧ k_ ≠ gb333))) (fun _ hk => hk.2) (.string ((rd_T28 t283 x112_4).f0))) (fun _ hk => hk.2) (.int .i64 ((rd_T28 t283 x112_4).f1))) (fun _ hk => hk.1.2)⟩
                                        have n1_ : Aside0 (((w93.setCell ⟨gb333, 0, none⟩ (.string ((rd_T28 t283 x112_4).f0))).setCell ⟨gb333, 1, none⟩ (.int .i64 ((rd_T28 t283 x112_4).f1))).heap[gb333]? = some (.cells #[.string ((rd_T28 t283 x112_4).f0), .int .i64 ((rd_T28 t283 x112_4).f1)] 28 (0, 0))) := ⟨by (with_reducible repeat (first | refine blk_drewN ?_ _ | refine blk_drew ?_ | refine blk_alloc ?_ _)); refine blk_put (cs := #[.string ((rd_T28 t283 x112_4).f0), .int .i64 0]) ?_ 1 _ rfl; (with_reducible repeat (first | refine blk_drewN ?_ _ | refine blk_drew ?_ | refine blk_alloc ?_ _)); refine blk_put (cs := #[.string (⟨#[]⟩ : ByteArray), .int .i64 0]) ?_ 0 _ rfl; (with_reducible repeat (first | refine blk_drewN ?_ _ | refine blk_drew ?_ | refine blk_alloc ?_ _)); exact BK333.out⟩
                                        have n2_ : Aside0 (Below w.heap.size w ((w93.setCell ⟨gb333, 0, none⟩ (.string ((rd_T28 t283 x112_4).f0))).setCell ⟨gb333, 1, none⟩ (.int .i64 ((rd_T28 t283 x112_4).f1)))) := ⟨by repeat (first | (with_reducible first | exact HB.out | apply below_alloc | apply pw_below_drewN | apply below_drew1 | refine below_set ?_ GE333.out) | exact HB.out)⟩
                                        (try clear HO_110)
                                        (try clear BK333)
                                        (try clear HB)
                                        generalize ((w93.setCell ⟨gb333, 0, none⟩ (.string ((rd_T28 t283 x112_4).f0))).setCell ⟨gb333, 1, none⟩ (.int .i64 ((rd_T28 t283 x112_4).f1))) = w95 at n0_ n1_ n2_ ⊢
                                        have HO_110 := n0_
                                        have BK333 := n1_
                                        have HB := n2_
                                        clear n0_ n1_ n2_
                                        have n0_ := Aside0.mk (Kd.R_drew HO_110.out)
                                        have n1_ := Aside0.mk (blk_drew BK333.out)
                                        have n2_ := Aside0.mk (below_drew1 HB.out)
                                        clear HO_110
                                        clear BK333
                                        clear HB
                                        have HO_110 := n0_
                                        have BK333 := n1_
                                        have HB := n2_
                                        clear n0_ n1_ n2_
                                        refine start_ (n := 10) (S := fun w' => w'.cell? ⟨gb333, 0, none⟩ = some (.string ((rd_T28 t283 x112_4).f0)) ∧ w'.cell? ⟨gb333, 1, none⟩ = some (.int .i64 ((rd_T28 t283 x112_4).f1))) (ds := []) #[false, false, false, false, false, false, false, false, false, false] (by kernel_rfl) rfl rfl ⟨(blk_cell BK333.out 0).trans rfl, (blk_cell BK333.out 1).trans rfl⟩ (fun hHeld => ?_); refine with_tabW berthlaw02_QuantAway.tab18 berthlaw02_QuantAway.bits18 (fun HT_ HW_ => ?_)
                                        generalize w95.drew = w96 at HO_110 BK333 HB hHeld ⊢
                                        refine pure_ (i := 0) (N := some 116) (v := ?_) (a' := ?_) #[true, false, false, false, false, false, false, false, false, false] rfl rfl (any_of HT_.out (by kernel_rfl)) (fun _ _ _ h => h) (Or.inl ⟨by rfl, ?_⟩) ?_ ?_
                                        rotate_left
                                        · intro w'
                                          go_simp
                                          with_reducible rfl
                                        rotate_left
                                        · simp only [Act.put, List.setIfInBounds_toArray, List.set_cons_zero, List.set_cons_succ, i64_w, i32_w]
                                          rfl
                                        refine pure_ (i := 1) (N := some 117) (v := ?_) (a' := ?_) #[true, true, false, false, false, false, false, false, false, false] rfl rfl (any_of HT_.out (by kernel_rfl)) (fun _ _ _ h => h) (Or.inl ⟨by rfl, ?_⟩) ?_ ?_
                                        rotate_left
                                        · intro w'
                                          go_simp
                                          with_reducible rfl
                                        rotate_left
                                        · simp only [Act.put, List.setIfInBounds_toArray, List.set_cons_zero, List.set_cons_succ, i64_w, i32_w]
                                          rfl
                                        refine pure_ (i := 4) (N := some 120) (v := ?_) (a' := ?_) #[true, true, false, false, true, false, false, false, false, false] rfl rfl (any_of HT_.out (by kernel_rfl)) (fun _ _ _ h => h) (Or.inl ⟨by rfl, ?_⟩) ?_ ?_
                                        rotate_left
                                        · intro w'
                                          go_simp
                                          with_reducible rfl
                                        rotate_left
                                        · simp only [Act.put, List.setIfInBounds_toArray, List.set_cons_zero, List.set_cons_succ, i64_w, i32_w]
                                          rfl
                                        refine pure_ (i := 5) (N := some 121) (v := ?_) (a' := ?_) #[true, true, false, false, true, true, false, false, false, false] rfl rfl (any_of HT_.out (by kernel_rfl)) (fun _ _ _ h => h) (Or.inl ⟨by rfl, ?_⟩) ?_ ?_
                                        rotate_left
                                        · intro w'
                                          go_simp
                                          with_reducible rfl
                                        rotate_left
                                        · simp only [Act.put, List.setIfInBounds_toArray, List.set_cons_zero, List.set_cons_succ, i64_w, i32_w]
                                          rfl
                                        refine take_ (i := 2) (N := some 118) (v := ?_) (a' := ?_) #[true, true, true, false, true, true, false, false, false, false] rfl rfl (take_ofW HT_.out HW_.out (by kernel_rfl)) (fun _ _ _ h => h) (Or.inl ⟨by rfl, ?_⟩) hHeld ?_ ?_
                                        rotate_left
                                        · rintro w' ⟨s0, s1⟩
                                          go_simp
                                          with_reducible rfl
                                        rotate_left
                                        · simp only [Act.put, List.setIfInBounds_toArray, List.set_cons_zero, List.set_cons_succ, i64_w, i32_w]
                                          rfl
                                        refine take_ (i := 6) (N := some 122) (v := ?_) (a' := ?_) #[true, true, true, false, true, true, true, false, false, false] rfl rfl (take_ofW HT_.out HW_.out (by kernel_rfl)) (fun _ _ _ h => h) (Or.inl ⟨by rfl, ?_⟩) hHeld ?_ ?_
                                        rotate_left
                                        · rintro w' ⟨s0, s1⟩
                                          go_simp
                                          with_reducible rfl
                                        rotate_left
                                        · simp only [Act.put, List.setIfInBounds_toArray, List.set_cons_zero, List.set_cons_succ, i64_w, i32_w]
                                          rfl
                                        refine one_ (i := 3) (N := some 119) #[true, true, true, true, true, true, true, false, false, false] rfl rfl (one_of HT_.out (by kernel_rfl)) (by decide) (fun K hK => ?_)
                                        refine goes_ Try.func12 (by kernel_rfl) rfl #[.slice A0 l0.length c0, .string ((rd_T28 t283 x112_4).f0)] (by rfl) rfl rfl (by (try simp only [List.map_toArray, List.map_cons, List.map_nil]); first | done | rfl | (simp only [List.length_drop, List.length_take]; rfl)) ?_
                                        with_reducible refine (quant_Get.calls k4 _ _ l0 ((rd_T28 t283 x112_4).f0) t334 _ ?side1 ?side2 A76.out).mono ?_
                                        (case side1 => repeat (first | exact (Kd.C_below HR0.out HB.out) | (with_reducible refine Kd.C_alloc ?_ _) | (with_reducible refine Kd.C_drewN ?_ _) | (with_reducible refine Kd.C_drew ?_)))
                                        (case side2 => exact HC0.out)
                                        rintro e w97 ⟨rfl, hb⟩
                                        refine ⟨_, rfl, ?_⟩
                                        have n0_ := Aside0.mk (Kd.R_below (by (with_reducible repeat (first | apply Kd.R_alloc | apply Kd.R_drewN | apply Kd.R_drew)); exact HO_110.out) hb)
                                        have n1_ := Aside0.mk (blk_below (g := gb333) (o := .cells #[.string ((rd_T28 t283 x112_4).f0), .int .i64 ((rd_T28 t283 x112_4).f1)] 28 (0, 0)) (by (with_reducible repeat (first | refine blk_drewN ?_ _ | refine blk_drew ?_ | refine blk_alloc ?_ _)); exact BK333.out) hb)
                                        have n2_ := Aside0.mk (below_step (by repeat (first | (with_reducible first | exact HB.out | apply below_alloc | apply pw_below_drewN | apply below_drew1 | refine below_set ?_ GE333.out) | exact HB.out)) hb)
                                        clear HO_110
                                        clear BK333
                                        clear HB
                                        have HO_110 := n0_
                                        have BK333 := n1_
                                        have HB := n2_
                                        clear n0_ n1_ n2_
                                        (try clear hb)
                                        (try clear hb2)
                                        (try clear hk)
                                        (try clear hi)
                                        refine hK.out _ _ ⟨(blk_cell BK333.out 0).trans rfl, (blk_cell BK333.out 1).trans rfl⟩ (fun hHeld => ?_)
                                        clear hK K
                                        refine norm_ (a' := ?_) ?_ ?_
                                        rotate_left
                                        · show Act.put _ (some 119) _ = _
                                          simp only [Act.put, List.setIfInBounds_toArray, List.set_cons_zero, List.set_cons_succ, i64_w, i32_w]
                                          rfl
                                        refine one_ (i := 7) (N := some 123) #[true, true, true, true, true, true, true, true, false, false] rfl rfl (one_of HT_.out (by kernel_rfl)) (by decide) (fun K hK => ?_)
                                        refine goes_ Try.func12 (by kernel_rfl) rfl #[.slice A1 l1.length c1, .string ((rd_T28 t283 x112_4).f0)] (by rfl) rfl rfl (by (try simp only [List.map_toArray, List.map_cons, List.map_nil]); first | done | rfl | (simp only [List.length_drop, List.length_take]; rfl)) ?_
                                        with_reducible refine (quant_Get.calls k4 _ _ l1 ((rd_T28 t283 x112_4).f0) t335 _ ?side1 ?side2 A77.out).mono ?_
                                        (case side1 => repeat (first | exact (Kd.C_below HR1.out HB.out) | (with_reducible refine Kd.C_alloc ?_ _) | (with_reducible refine Kd.C_drewN ?_ _) | (with_reducible refine Kd.C_drew ?_)))
                                        (case side2 => exact HC1.out)
                                        rintro e w98 ⟨rfl, hb⟩
                                        refine ⟨_, rfl, ?_⟩
                                        have n0_ := Aside0.mk (Kd.R_below (by (with_reducible repeat (first | apply Kd.R_alloc | apply Kd.R_drewN | apply Kd.R_drew)); exact HO_110.out) hb)
                                        have n1_ := Aside0.mk (blk_below (g := gb333) (o := .cells #[.string ((rd_T28 t283 x112_4).f0), .int .i64 ((rd_T28 t283 x112_4).f1)] 28 (0, 0)) (by (with_reducible repeat (first | refine blk_drewN ?_ _ | refine blk_drew ?_ | refine blk_alloc ?_ _)); exact BK333.out) hb)
                                        have n2_ := Aside0.mk (below_step (by repeat (first | (with_reducible first | exact HB.out | apply below_alloc | apply pw_below_drewN | apply below_drew1 | refine below_set ?_ GE333.out) | exact HB.out)) hb)
                                        clear HO_110
                                        clear BK333
                                        clear HB
                                        have HO_110 := n0_
                                        have BK333 := n1_
                                        have HB := n2_
                                        clear n0_ n1_ n2_
                                        (try clear hb)
                                        (try clear hb2)
                                        (try clear hk)
                                        (try clear hi)
                                        refine hK.out _ _ ⟨(blk_cell BK333.out 0).trans rfl, (blk_cell BK333.out 1).trans rfl⟩ (fun hHeld => ?_)
                                        clear hK K
                                        refine norm_ (a' := ?_) ?_ ?_
                                        rotate_left
                                        · show Act.put _ (some 123) _ = _
                                          simp only [Act.put, List.setIfInBounds_toArray, List.set_cons_zero, List.set_cons_succ, i64_w, i32_w]
                                          rfl
                                        refine pure_ (i := 8) (N := some 19) (v := ?_) (a' := ?_) #[true, true, true, true, true, true, true, true, true, false] rfl rfl (any_of HT_.out (by kernel_rfl)) (fun _ _ _ h => h) (Or.inl ⟨by rfl, ?_⟩) ?_ ?_
                                        rotate_left
                                        · intro w'
                                          go_simp
                                          with_reducible rfl
                                        rotate_left
                                        · simp only [Act.put, List.setIfInBounds_toArray, List.set_cons_zero, List.set_cons_succ, i64_w, i32_w]
                                          rfl
                                        refine pure_ (i := 9) (N := some 20) (v := ?_) (a' := ?_) #[true, true, true, true, true, true, true, true, true, true] rfl rfl (any_of HT_.out (by kernel_rfl)) (fun _ _ _ h => h) (Or.inl ⟨by rfl, ?_⟩) ?_ ?_
                                        rotate_left
                                        · intro w'
                                          go_simp
                                          with_reducible rfl
                                        rotate_left
                                        · simp only [Act.put, List.setIfInBounds_toArray, List.set_cons_zero, List.set_cons_succ, i64_w, i32_w]
                                          rfl
                                        refine done_ (done_of HT_.out (by kernel_rfl)) ?_
                                        have hcz99_0 : w98.cell? ⟨gb333, 0, none⟩ = some (.string ((rd_T28 t283 x112_4).f0)) := (blk_cell BK333.out 0).trans rfl
                                        have hcz99_1 : w98.cell? ⟨gb333, 1, none⟩ = some (.int .i64 ((rd_T28 t283 x112_4).f1)) := (blk_cell BK333.out 1).trans rfl
                                        have hfz99_0 := blk_frozen BK333.out 0
                                        have hfz99_1 := blk_frozen BK333.out 1
                                        try go_wp2
                                        go_ret
                                        exact ⟨by first | rfl | (simp [errW_none, errW_some] <;> rfl) | (simp [*, errW_none, errW_some] <;> rfl), by repeat (first | (with_reducible first | exact HB.out | apply below_alloc | apply pw_below_drewN | apply below_drew1 | refine below_set ?_ GE333.out) | exact HB.out)⟩
                                      · rw [if_neg c92] at H
                                        have c92b0 : decide (((rd_T28 t283 x112_4).f1) < t334) = false := decide_eq_false c92
                                        clear c92
                                        by_cases c100 : (wrap64 (((rd_T28 t283 x112_4).f1) - t334)) = t335
                                        · rw [if_pos c100] at H
                                          have c100b0 : ((wrap64 (((rd_T28 t283 x112_4).f1) - t334)) == t335) = true := beq_iff_eq.mpr c100
                                          have c100b1 : ((wrap64 (((rd_T28 t283 x112_4).f1) - t334)) != t335) = false := bne_eq_false_iff_eq.mpr c100
                                          (try (have c100b2 : ((IntKind.i64.wrap (((rd_T28 t283 x112_4).f1) - t334)) == t335) = true := by have h_ : ((wrap64 (((rd_T28 t283 x112_4).f1) - t334)) == t335) = true := beq_iff_eq.mpr c100; simp only [i64_w]; exact h_))
                                          (try (have c100b3 : ((IntKind.i64.wrap (((rd_T28 t283 x112_4).f1) - t334)) != t335) = false := by have h_ : ((wrap64 (((rd_T28 t283 x112_4).f1) - t334)) != t335) = false := bne_eq_false_iff_eq.mpr c100; simp only [i64_w]; exact h_))
                                          clear c100
                                          have H' := Aside0.mk H
                                          clear H
                                          have p332 : 0 ≤ (x112_4 : Int) := of_decide_eq_true (by first | (with_reducible assumption) | assumption)
                                          have q332 : x112_4 < (t283.length : Int) := of_decide_eq_true (by first | (with_reducible assumption) | assumption)
                                          obtain ⟨ad332, e332, hx332_0, hx332_1⟩ := at_T28 (Kd.R_reads' HO_110.out).2.2 x112_4 p332 q332
                                          cases e332
                                          replace p332 := eq_true p332
                                          replace q332 := eq_true q332
                                          try go_wp2_with (first | ((with_reducible refine gate_dst (N := 18) rfl ?_); refine box_event ?hg (N := 18) ?hd (cs := #[.string (⟨#[]⟩ : ByteArray), .int .i64 0]) (t := 28) ?hr ?_; (case hd => rfl); (case hg => rfl); (case hr => first | (go_simp; done) | (go_simp; rfl)); intro gb333 hg w101 hbox hb; have n0_ := Aside0.mk (Kd.R_below (Kd.R_elderB (by (with_reducible repeat (first | apply Kd.R_alloc | apply Kd.R_drewN | apply Kd.R_drew)); exact HO_110.out) gb333 (Nat.le_of_eq hg.symm)) hb); have n1_ := Aside0.mk (below_step (by repeat (first | (with_reducible first | exact HB.out | apply below_alloc | apply pw_below_drewN | apply below_drew1) | exact HB.out)) hb); have n2_ := Aside0.mk (hbox); have n3_ := Aside0.mk ((by rw [hg]; exact (below_size (by repeat (first | (with_reducible first | exact HB.out | apply below_alloc | apply pw_below_drewN | apply below_drew1) | exact HB.out))) : w.heap.size ≤ gb333)); have n4_ := Aside0.mk ((by rw [hg]; exact (below_size (by repeat (first | (with_reducible first | exact HB.out | apply below_alloc | apply pw_below_drewN | apply below_drew1) | exact HB.out))) : w.heap.size ≤ gb333)); clear HO_110; clear HB; have HO_110 := n0_; have HB := n1_; have BK333 := n2_; have GW333 := n3_; have GE333 := n4_; clear n0_ n1_ n2_ n3_ n4_; clear hb hbox hg; have hcz102_0 : w101.cell? ⟨gb333, 0, none⟩ = some (.string (⟨#[]⟩ : ByteArray)) := (blk_cell BK333.out 0).trans rfl; have hcz102_1 : w101.cell? ⟨gb333, 1, none⟩ = some (.int .i64 0) := (blk_cell BK333.out 1).trans rfl; have hfz102_0 := blk_frozen BK333.out 0; have hfz102_1 := blk_frozen BK333.out 1))
                                          have n0_ : Aside0 (Kd.R k28 28 ((w101.setCell ⟨gb333, 0, none⟩ (.string ((rd_T28 t283 x112_4).f0))).setCell ⟨gb333, 1, none⟩ (.int .i64 ((rd_T28 t283 x112_4).f1))) w.heap.size (fun k_ => k_ ≠ gb333) (.slice (some ad332) t283.length co53) t283) := ⟨by (with_reducible repeat (first | apply Kd.R_alloc | apply Kd.R_drewN | apply Kd.R_drew)); exact Kd.R_mono (Kd.R_far (p := ⟨gb333, 1, none⟩) (Kd.R_far (p := ⟨gb333, 0, none⟩) (Kd.R_mono HO_110.out (fun k_ hk => (⟨hk, hk.2⟩ : _ ∧ k_ ≠ gb333))) (fun _ hk => hk.2) (.string ((rd_T28 t283 x112_4).f0))) (fun _ hk => hk.2) (.int .i64 ((rd_T28 t283 x112_4).f1))) (fun _ hk => hk.1.2)⟩
                                          have n1_ : Aside0 (((w101.setCell ⟨gb333, 0, none⟩ (.string ((rd_T28 t283 x112_4).f0))).setCell ⟨gb333, 1, none⟩ (.int .i64 ((rd_T28 t283 x112_4).f1))).heap[gb333]? = some (.cells #[.string ((rd_T28 t283 x112_4).f0), .int .i64 ((rd_T28 t283 x112_4).f1)] 28 (0, 0))) := ⟨by (with_reducible repeat (first | refine blk_drewN ?_ _ | refine blk_drew ?_ | refine blk_alloc ?_ _)); refine blk_put (cs := #[.string ((rd_T28 t283 x112_4).f0), .int .i64 0]) ?_ 1 _ rfl; (with_reducible repeat (first | refine blk_drewN ?_ _ | refine blk_drew ?_ | refine blk_alloc ?_ _)); refine blk_put (cs := #[.string (⟨#[]⟩ : ByteArray), .int .i64 0]) ?_ 0 _ rfl; (with_reducible repeat (first | refine blk_drewN ?_ _ | refine blk_drew ?_ | refine blk_alloc ?_ _)); exact BK333.out⟩
                                          have n2_ : Aside0 (Below w.heap.size w ((w101.setCell ⟨gb333, 0, none⟩ (.string ((rd_T28 t283 x112_4).f0))).setCell ⟨gb333, 1, none⟩ (.int .i64 ((rd_T28 t283 x112_4).f1)))) := ⟨by repeat (first | (with_reducible first | exact HB.out | apply below_alloc | apply pw_below_drewN | apply below_drew1 | refine below_set ?_ GE333.out) | exact HB.out)⟩
                                          (try clear HO_110)
                                          (try clear BK333)
                                          (try clear HB)
                                          generalize ((w101.setCell ⟨gb333, 0, none⟩ (.string ((rd_T28 t283 x112_4).f0))).setCell ⟨gb333, 1, none⟩ (.int .i64 ((rd_T28 t283 x112_4).f1))) = w103 at n0_ n1_ n2_ ⊢
                                          have HO_110 := n0_
                                          have BK333 := n1_
                                          have HB := n2_
                                          clear n0_ n1_ n2_
                                          have n0_ := Aside0.mk (Kd.R_drew HO_110.out)
                                          have n1_ := Aside0.mk (blk_drew BK333.out)
                                          have n2_ := Aside0.mk (below_drew1 HB.out)
                                          clear HO_110
                                          clear BK333
                                          clear HB
                                          have HO_110 := n0_
                                          have BK333 := n1_
                                          have HB := n2_
                                          clear n0_ n1_ n2_
                                          refine start_ (n := 10) (S := fun w' => w'.cell? ⟨gb333, 0, none⟩ = some (.string ((rd_T28 t283 x112_4).f0)) ∧ w'.cell? ⟨gb333, 1, none⟩ = some (.int .i64 ((rd_T28 t283 x112_4).f1))) (ds := []) #[false, false, false, false, false, false, false, false, false, false] (by kernel_rfl) rfl rfl ⟨(blk_cell BK333.out 0).trans rfl, (blk_cell BK333.out 1).trans rfl⟩ (fun hHeld => ?_); refine with_tabW berthlaw02_QuantAway.tab18 berthlaw02_QuantAway.bits18 (fun HT_ HW_ => ?_)
                                          generalize w103.drew = w104 at HO_110 BK333 HB hHeld ⊢
                                          refine pure_ (i := 0) (N := some 116) (v := ?_) (a' := ?_) #[true, false, false, false, false, false, false, false, false, false] rfl rfl (any_of HT_.out (by kernel_rfl)) (fun _ _ _ h => h) (Or.inl ⟨by rfl, ?_⟩) ?_ ?_
                                          rotate_left
                                          · intro w'
                                            go_simp
                                            with_reducible rfl
                                          rotate_left
                                          · simp only [Act.put, List.setIfInBounds_toArray, List.set_cons_zero, List.set_cons_succ, i64_w, i32_w]
                                            rfl
                                          refine pure_ (i := 1) (N := some 117) (v := ?_) (a' := ?_) #[true, true, false, false, false, false, false, false, false, false] rfl rfl (any_of HT_.out (by kernel_rfl)) (fun _ _ _ h => h) (Or.inl ⟨by rfl, ?_⟩) ?_ ?_
                                          rotate_left
                                          · intro w'
                                            go_simp
                                            with_reducible rfl
                                          rotate_left
                                          · simp only [Act.put, List.setIfInBounds_toArray, List.set_cons_zero, List.set_cons_succ, i64_w, i32_w]
                                            rfl
                                          refine pure_ (i := 4) (N := some 120) (v := ?_) (a' := ?_) #[true, true, false, false, true, false, false, false, false, false] rfl rfl (any_of HT_.out (by kernel_rfl)) (fun _ _ _ h => h) (Or.inl ⟨by rfl, ?_⟩) ?_ ?_
                                          rotate_left
                                          · intro w'
                                            go_simp
                                            with_reducible rfl
                                          rotate_left
                                          · simp only [Act.put, List.setIfInBounds_toArray, List.set_cons_zero, List.set_cons_succ, i64_w, i32_w]
                                            rfl
                                          refine pure_ (i := 5) (N := some 121) (v := ?_) (a' := ?_) #[true, true, false, false, true, true, false, false, false, false] rfl rfl (any_of HT_.out (by kernel_rfl)) (fun _ _ _ h => h) (Or.inl ⟨by rfl, ?_⟩) ?_ ?_
                                          rotate_left
                                          · intro w'
                                            go_simp
                                            with_reducible rfl
                                          rotate_left
                                          · simp only [Act.put, List.setIfInBounds_toArray, List.set_cons_zero, List.set_cons_succ, i64_w, i32_w]
                                            rfl
                                          refine take_ (i := 2) (N := some 118) (v := ?_) (a' := ?_) #[true, true, true, false, true, true, false, false, false, false] rfl rfl (take_ofW HT_.out HW_.out (by kernel_rfl)) (fun _ _ _ h => h) (Or.inl ⟨by rfl, ?_⟩) hHeld ?_ ?_
                                          rotate_left
                                          · rintro w' ⟨s0, s1⟩
                                            go_simp
                                            with_reducible rfl
                                          rotate_left
                                          · simp only [Act.put, List.setIfInBounds_toArray, List.set_cons_zero, List.set_cons_succ, i64_w, i32_w]
                                            rfl
                                          refine take_ (i := 6) (N := some 122) (v := ?_) (a' := ?_) #[true, true, true, false, true, true, true, false, false, false] rfl rfl (take_ofW HT_.out HW_.out (by kernel_rfl)) (fun _ _ _ h => h) (Or.inl ⟨by rfl, ?_⟩) hHeld ?_ ?_
                                          rotate_left
                                          · rintro w' ⟨s0, s1⟩
                                            go_simp
                                            with_reducible rfl
                                          rotate_left
                                          · simp only [Act.put, List.setIfInBounds_toArray, List.set_cons_zero, List.set_cons_succ, i64_w, i32_w]
                                            rfl
                                          refine one_ (i := 3) (N := some 119) #[true, true, true, true, true, true, true, false, false, false] rfl rfl (one_of HT_.out (by kernel_rfl)) (by decide) (fun K hK => ?_)
                                          refine goes_ Try.func12 (by kernel_rfl) rfl #[.slice A0 l0.length c0, .string ((rd_T28 t283 x112_4).f0)] (by rfl) rfl rfl (by (try simp only [List.map_toArray, List.map_cons, List.map_nil]); first | done | rfl | (simp only [List.length_drop, List.length_take]; rfl)) ?_
                                          with_reducible refine (quant_Get.calls k4 _ _ l0 ((rd_T28 t283 x112_4).f0) t334 _ ?side1 ?side2 A76.out).mono ?_
                                          (case side1 => repeat (first | exact (Kd.C_below HR0.out HB.out) | (with_reducible refine Kd.C_alloc ?_ _) | (with_reducible refine Kd.C_drewN ?_ _) | (with_reducible refine Kd.C_drew ?_)))
                                          (case side2 => exact HC0.out)
                                          rintro e w105 ⟨rfl, hb⟩
                                          refine ⟨_, rfl, ?_⟩
                                          have n0_ := Aside0.mk (Kd.R_below (by (with_reducible repeat (first | apply Kd.R_alloc | apply Kd.R_drewN | apply Kd.R_drew)); exact HO_110.out) hb)
                                          have n1_ := Aside0.mk (blk_below (g := gb333) (o := .cells #[.string ((rd_T28 t283 x112_4).f0), .int .i64 ((rd_T28 t283 x112_4).f1)] 28 (0, 0)) (by (with_reducible repeat (first | refine blk_drewN ?_ _ | refine blk_drew ?_ | refine blk_alloc ?_ _)); exact BK333.out) hb)
                                          have n2_ := Aside0.mk (below_step (by repeat (first | (with_reducible first | exact HB.out | apply below_alloc | apply pw_below_drewN | apply below_drew1 | refine below_set ?_ GE333.out) | exact HB.out)) hb)
                                          clear HO_110
                                          clear BK333
                                          clear HB
                                          have HO_110 := n0_
                                          have BK333 := n1_
                                          have HB := n2_
                                          clear n0_ n1_ n2_
                                          (try clear hb)
                                          (try clear hb2)
                                          (try clear hk)
                                          (try clear hi)
                                          refine hK.out _ _ ⟨(blk_cell BK333.out 0).trans rfl, (blk_cell BK333.out 1).trans rfl⟩ (fun hHeld => ?_)
                                          clear hK K
                                          refine norm_ (a' := ?_) ?_ ?_
                                          rotate_left
                                          · show Act.put _ (some 119) _ = _
                                            simp only [Act.put, List.setIfInBounds_toArray, List.set_cons_zero, List.set_cons_succ, i64_w, i32_w]
                                            rfl
                                          refine one_ (i := 7) (N := some 123) #[true, true, true, true, true, true, true, true, false, false] rfl rfl (one_of HT_.out (by kernel_rfl)) (by decide) (fun K hK => ?_)
                                          refine goes_ Try.func12 (by kernel_rfl) rfl #[.slice A1 l1.length c1, .string ((rd_T28 t283 x112_4).f0)] (by rfl) rfl rfl (by (try simp only [List.map_toArray, List.map_cons, List.map_nil]); first | done | rfl | (simp only [List.length_drop, List.length_take]; rfl)) ?_
                                          with_reducible refine (quant_Get.calls k4 _ _ l1 ((rd_T28 t283 x112_4).f0) t335 _ ?side1 ?side2 A77.out).mono ?_
                                          (case side1 => repeat (first | exact (Kd.C_below HR1.out HB.out) | (with_reducible refine Kd.C_alloc ?_ _) | (with_reducible refine Kd.C_drewN ?_ _) | (with_reducible refine Kd.C_drew ?_)))
                                          (case side2 => exact HC1.out)
                                          rintro e w106 ⟨rfl, hb⟩
                                          refine ⟨_, rfl, ?_⟩
                                          have n0_ := Aside0.mk (Kd.R_below (by (with_reducible repeat (first | apply Kd.R_alloc | apply Kd.R_drewN | apply Kd.R_drew)); exact HO_110.out) hb)
                                          have n1_ := Aside0.mk (blk_below (g := gb333) (o := .cells #[.string ((rd_T28 t283 x112_4).f0), .int .i64 ((rd_T28 t283 x112_4).f1)] 28 (0, 0)) (by (with_reducible repeat (first | refine blk_drewN ?_ _ | refine blk_drew ?_ | refine blk_alloc ?_ _)); exact BK333.out) hb)
                                          have n2_ := Aside0.mk (below_step (by repeat (first | (with_reducible first | exact HB.out | apply below_alloc | apply pw_below_drewN | apply below_drew1 | refine below_set ?_ GE333.out) | exact HB.out)) hb)
                                          clear HO_110
                                          clear BK333
                                          clear HB
                                          have HO_110 := n0_
                                          have BK333 := n1_
                                          have HB := n2_
                                          clear n0_ n1_ n2_
                                          (try clear hb)
                                          (try clear hb2)
                                          (try clear hk)
                                          (try clear hi)
                                          refine hK.out _ _ ⟨(blk_cell BK333.out 0).trans rfl, (blk_cell BK333.out 1).trans rfl⟩ (fun hHeld => ?_)
                                          clear hK K
                                          refine norm_ (a' := ?_) ?_ ?_
                                          rotate_left
                                          · show Act.put _ (some 123) _ = _
                                            simp only [Act.put, List.setIfInBounds_toArray, List.set_cons_zero, List.set_cons_succ, i64_w, i32_w]
                                            rfl
                                          refine pure_ (i := 8) (N := some 19) (v := ?_) (a' := ?_) #[true, true, true, true, true, true, true, true, true, false] rfl rfl (any_of HT_.out (by kernel_rfl)) (fun _ _ _ h => h) (Or.inl ⟨by rfl, ?_⟩) ?_ ?_
                                          rotate_left
                                          · intro w'
                                            go_simp
                                            with_reducible rfl
                                          rotate_left
                                          · simp only [Act.put, List.setIfInBounds_toArray, List.set_cons_zero, List.set_cons_succ, i64_w, i32_w]
                                            rfl
                                          refine pure_ (i := 9) (N := some 20) (v := ?_) (a' := ?_) #[true, true, true, true, true, true, true, true, true, true] rfl rfl (any_of HT_.out (by kernel_rfl)) (fun _ _ _ h => h) (Or.inl ⟨by rfl, ?_⟩) ?_ ?_
                                          rotate_left
                                          · intro w'
                                            go_simp
                                            with_reducible rfl
                                          rotate_left
                                          · simp only [Act.put, List.setIfInBounds_toArray, List.set_cons_zero, List.set_cons_succ, i64_w, i32_w]
                                            rfl
                                          refine done_ (done_of HT_.out (by kernel_rfl)) ?_
                                          have hcz107_0 : w106.cell? ⟨gb333, 0, none⟩ = some (.string ((rd_T28 t283 x112_4).f0)) := (blk_cell BK333.out 0).trans rfl
                                          have hcz107_1 : w106.cell? ⟨gb333, 1, none⟩ = some (.int .i64 ((rd_T28 t283 x112_4).f1)) := (blk_cell BK333.out 1).trans rfl
                                          have hfz107_0 := blk_frozen BK333.out 0
                                          have hfz107_1 := blk_frozen BK333.out 1
                                          try go_wp2
                                          go_roundg k4
                                          case measure => have := HJ10.out; have := HJ38.out; have := HJ51.out; have := HK4.out; omega
                                          case rel => exact ⟨(wrap64 (x112_4 + 1)), (by first | rfl | (simp; done) | (simp [*]; done) | (simp only [i64_w]; done) | (simp [i64_w, Int.tdiv_eq_ediv_of_nonneg]; done)), H', ⟨by have := HJ10.out; have := HJ38.out; have := HJ51.out; have := HK4.out; omega⟩, ⟨by (with_reducible repeat (first | apply Kd.R_alloc | apply Kd.R_drewN | apply Kd.R_drew)); exact Kd.R_mono HO_110.out (fun _ hk => trivial)⟩, ⟨by repeat (first | (with_reducible first | exact HB.out | apply below_alloc | apply pw_below_drewN | apply below_drew1 | refine below_set ?_ GE333.out) | exact HB.out)⟩⟩
                                        · rw [if_neg c100] at H
                                          have c100b0 : ((wrap64 (((rd_T28 t283 x112_4).f1) - t334)) == t335) = false := beq_eq_false_iff_ne.mpr c100
                                          have c100b1 : ((wrap64 (((rd_T28 t283 x112_4).f1) - t334)) != t335) = true := bne_iff_ne.mpr c100
                                          (try (have c100b2 : ((IntKind.i64.wrap (((rd_T28 t283 x112_4).f1) - t334)) == t335) = false := by have h_ : ((wrap64 (((rd_T28 t283 x112_4).f1) - t334)) == t335) = false := beq_eq_false_iff_ne.mpr c100; simp only [i64_w]; exact h_))
                                          (try (have c100b3 : ((IntKind.i64.wrap (((rd_T28 t283 x112_4).f1) - t334)) != t335) = true := by have h_ : ((wrap64 (((rd_T28 t283 x112_4).f1) - t334)) != t335) = true := bne_iff_ne.mpr c100; simp only [i64_w]; exact h_))
                                          obtain rfl := Option.some.inj H
                                          have p332 : 0 ≤ (x112_4 : Int) := of_decide_eq_true (by first | (with_reducible assumption) | assumption)
                                          have q332 : x112_4 < (t283.length : Int) := of_decide_eq_true (by first | (with_reducible assumption) | assumption)
                                          obtain ⟨ad332, e332, hx332_0, hx332_1⟩ := at_T28 (Kd.R_reads' HO_110.out).2.2 x112_4 p332 q332
                                          cases e332
                                          replace p332 := eq_true p332
                                          replace q332 := eq_true q332
                                          try go_wp2_with (first | ((with_reducible refine gate_dst (N := 18) rfl ?_); refine box_event ?hg (N := 18) ?hd (cs := #[.string (⟨#[]⟩ : ByteArray), .int .i64 0]) (t := 28) ?hr ?_; (case hd => rfl); (case hg => rfl); (case hr => first | (go_simp; done) | (go_simp; rfl)); intro gb333 hg w108 hbox hb; have n0_ := Aside0.mk (Kd.R_below (Kd.R_elderB (by (with_reducible repeat (first | apply Kd.R_alloc | apply Kd.R_drewN | apply Kd.R_drew)); exact HO_110.out) gb333 (Nat.le_of_eq hg.symm)) hb); have n1_ := Aside0.mk (below_step (by repeat (first | (with_reducible first | exact HB.out | apply below_alloc | apply pw_below_drewN | apply below_drew1) | exact HB.out)) hb); have n2_ := Aside0.mk (hbox); have n3_ := Aside0.mk ((by rw [hg]; exact (below_size (by repeat (first | (with_reducible first | exact HB.out | apply below_alloc | apply pw_below_drewN | apply below_drew1) | exact HB.out))) : w.heap.size ≤ gb333)); have n4_ := Aside0.mk ((by rw [hg]; exact (below_size (by repeat (first | (with_reducible first | exact HB.out | apply below_alloc | apply pw_below_drewN | apply below_drew1) | exact HB.out))) : w.heap.size ≤ gb333)); clear HO_110; clear HB; have HO_110 := n0_; have HB := n1_; have BK333 := n2_; have GW333 := n3_; have GE333 := n4_; clear n0_ n1_ n2_ n3_ n4_; clear hb hbox hg; have hcz109_0 : w108.cell? ⟨gb333, 0, none⟩ = some (.string (⟨#[]⟩ : ByteArray)) := (blk_cell BK333.out 0).trans rfl; have hcz109_1 : w108.cell? ⟨gb333, 1, none⟩ = some (.int .i64 0) := (blk_cell BK333.out 1).trans rfl; have hfz109_0 := blk_frozen BK333.out 0; have hfz109_1 := blk_frozen BK333.out 1))
                                          have n0_ : Aside0 (Kd.R k28 28 ((w108.setCell ⟨gb333, 0, none⟩ (.string ((rd_T28 t283 x112_4).f0))).setCell ⟨gb333, 1, none⟩ (.int .i64 ((rd_T28 t283 x112_4).f1))) w.heap.size (fun k_ => k_ ≠ gb333) (.slice (some ad332) t283.length co53) t283) := ⟨by (with_reducible repeat (first | apply Kd.R_alloc | apply Kd.R_drewN | apply Kd.R_drew)); exact Kd.R_mono (Kd.R_far (p := ⟨gb333, 1, none⟩) (Kd.R_far (p := ⟨gb333, 0, none⟩) (Kd.R_mono HO_110.out (fun k_ hk => (⟨hk, hk.2⟩ : _ ∧ k_ ≠ gb333))) (fun _ hk => hk.2) (.string ((rd_T28 t283 x112_4).f0))) (fun _ hk => hk.2) (.int .i64 ((rd_T28 t283 x112_4).f1))) (fun _ hk => hk.1.2)⟩
                                          have n1_ : Aside0 (((w108.setCell ⟨gb333, 0, none⟩ (.string ((rd_T28 t283 x112_4).f0))).setCell ⟨gb333, 1, none⟩ (.int .i64 ((rd_T28 t283 x112_4).f1))).heap[gb333]? = some (.cells #[.string ((rd_T28 t283 x112_4).f0), .int .i64 ((rd_T28 t283 x112_4).f1)] 28 (0, 0))) := ⟨by (with_reducible repeat (first | refine blk_drewN ?_ _ | refine blk_drew ?_ | refine blk_alloc ?_ _)); refine blk_put (cs := #[.string ((rd_T28 t283 x112_4).f0), .int .i64 0]) ?_ 1 _ rfl; (with_reducible repeat (first | refine blk_drewN ?_ _ | refine blk_drew ?_ | refine blk_alloc ?_ _)); refine blk_put (cs := #[.string (⟨#[]⟩ : ByteArray), .int .i64 0]) ?_ 0 _ rfl; (with_reducible repeat (first | refine blk_drewN ?_ _ | refine blk_drew ?_ | refine blk_alloc ?_ _)); exact BK333.out⟩
                                          have n2_ : Aside0 (Below w.heap.size w ((w108.setCell ⟨gb333, 0, none⟩ (.string ((rd_T28 t283 x112_4).f0))).setCell ⟨gb333, 1, none⟩ (.int .i64 ((rd_T28 t283 x112_4).f1)))) := ⟨by repeat (first | (with_reducible first | exact HB.out | apply below_alloc | apply pw_below_drewN | apply below_drew1 | refine below_set ?_ GE333.out) | exact HB.out)⟩
                                          (try clear HO_110)
                                          (try clear BK333)
                                          (try clear HB)
                                          generalize ((w108.setCell ⟨gb333, 0, none⟩ (.string ((rd_T28 t283 x112_4).f0))).setCell ⟨gb333, 1, none⟩ (.int .i64 ((rd_T28 t283 x112_4).f1))) = w110 at n0_ n1_ n2_ ⊢
                                          have HO_110 := n0_
                                          have BK333 := n1_
                                          have HB := n2_
                                          clear n0_ n1_ n2_
                                          have n0_ := Aside0.mk (Kd.R_drew HO_110.out)
                                          have n1_ := Aside0.mk (blk_drew BK333.out)
                                          have n2_ := Aside0.mk (below_drew1 HB.out)
                                          clear HO_110
                                          clear BK333
                                          clear HB
                                          have HO_110 := n0_
                                          have BK333 := n1_
                                          have HB := n2_
                                          clear n0_ n1_ n2_
                                          refine start_ (n := 10) (S := fun w' => w'.cell? ⟨gb333, 0, none⟩ = some (.string ((rd_T28 t283 x112_4).f0)) ∧ w'.cell? ⟨gb333, 1, none⟩ = some (.int .i64 ((rd_T28 t283 x112_4).f1))) (ds := []) #[false, false, false, false, false, false, false, false, false, false] (by kernel_rfl) rfl rfl ⟨(blk_cell BK333.out 0).trans rfl, (blk_cell BK333.out 1).trans rfl⟩ (fun hHeld => ?_); refine with_tabW berthlaw02_QuantAway.tab18 berthlaw02_QuantAway.bits18 (fun HT_ HW_ => ?_)
                                          generalize w110.drew = w111 at HO_110 BK333 HB hHeld ⊢
                                          refine pure_ (i := 0) (N := some 116) (v := ?_) (a' := ?_) #[true, false, false, false, false, false, false, false, false, false] rfl rfl (any_of HT_.out (by kernel_rfl)) (fun _ _ _ h => h) (Or.inl ⟨by rfl, ?_⟩) ?_ ?_
                                          rotate_left
                                          · intro w'
                                            go_simp
                                            with_reducible rfl
                                          rotate_left
                                          · simp only [Act.put, List.setIfInBounds_toArray, List.set_cons_zero, List.set_cons_succ, i64_w, i32_w]
                                            rfl
                                          refine pure_ (i := 1) (N := some 117) (v := ?_) (a' := ?_) #[true, true, false, false, false, false, false, false, false, false] rfl rfl (any_of HT_.out (by kernel_rfl)) (fun _ _ _ h => h) (Or.inl ⟨by rfl, ?_⟩) ?_ ?_
                                          rotate_left
                                          · intro w'
                                            go_simp
                                            with_reducible rfl
                                          rotate_left
                                          · simp only [Act.put, List.setIfInBounds_toArray, List.set_cons_zero, List.set_cons_succ, i64_w, i32_w]
                                            rfl
                                          refine pure_ (i := 4) (N := some 120) (v := ?_) (a' := ?_) #[true, true, false, false, true, false, false, false, false, false] rfl rfl (any_of HT_.out (by kernel_rfl)) (fun _ _ _ h => h) (Or.inl ⟨by rfl, ?_⟩) ?_ ?_
                                          rotate_left
                                          · intro w'
                                            go_simp
                                            with_reducible rfl
                                          rotate_left
                                          · simp only [Act.put, List.setIfInBounds_toArray, List.set_cons_zero, List.set_cons_succ, i64_w, i32_w]
                                            rfl
                                          refine pure_ (i := 5) (N := some 121) (v := ?_) (a' := ?_) #[true, true, false, false, true, true, false, false, false, false] rfl rfl (any_of HT_.out (by kernel_rfl)) (fun _ _ _ h => h) (Or.inl ⟨by rfl, ?_⟩) ?_ ?_
                                          rotate_left
                                          · intro w'
                                            go_simp
                                            with_reducible rfl
                                          rotate_left
                                          · simp only [Act.put, List.setIfInBounds_toArray, List.set_cons_zero, List.set_cons_succ, i64_w, i32_w]
                                            rfl
                                          refine take_ (i := 2) (N := some 118) (v := ?_) (a' := ?_) #[true, true, true, false, true, true, false, false, false, false] rfl rfl (take_ofW HT_.out HW_.out (by kernel_rfl)) (fun _ _ _ h => h) (Or.inl ⟨by rfl, ?_⟩) hHeld ?_ ?_
                                          rotate_left
                                          · rintro w' ⟨s0, s1⟩
                                            go_simp
                                            with_reducible rfl
                                          rotate_left
                                          · simp only [Act.put, List.setIfInBounds_toArray, List.set_cons_zero, List.set_cons_succ, i64_w, i32_w]
                                            rfl
                                          refine take_ (i := 6) (N := some 122) (v := ?_) (a' := ?_) #[true, true, true, false, true, true, true, false, false, false] rfl rfl (take_ofW HT_.out HW_.out (by kernel_rfl)) (fun _ _ _ h => h) (Or.inl ⟨by rfl, ?_⟩) hHeld ?_ ?_
                                          rotate_left
                                          · rintro w' ⟨s0, s1⟩
                                            go_simp
                                            with_reducible rfl
                                          rotate_left
                                          · simp only [Act.put, List.setIfInBounds_toArray, List.set_cons_zero, List.set_cons_succ, i64_w, i32_w]
                                            rfl
                                          refine one_ (i := 3) (N := some 119) #[true, true, true, true, true, true, true, false, false, false] rfl rfl (one_of HT_.out (by kernel_rfl)) (by decide) (fun K hK => ?_)
                                          refine goes_ Try.func12 (by kernel_rfl) rfl #[.slice A0 l0.length c0, .string ((rd_T28 t283 x112_4).f0)] (by rfl) rfl rfl (by (try simp only [List.map_toArray, List.map_cons, List.map_nil]); first | done | rfl | (simp only [List.length_drop, List.length_take]; rfl)) ?_
                                          with_reducible refine (quant_Get.calls k4 _ _ l0 ((rd_T28 t283 x112_4).f0) t334 _ ?side1 ?side2 A76.out).mono ?_
                                          (case side1 => repeat (first | exact (Kd.C_below HR0.out HB.out) | (with_reducible refine Kd.C_alloc ?_ _) | (with_reducible refine Kd.C_drewN ?_ _) | (with_reducible refine Kd.C_drew ?_)))
                                          (case side2 => exact HC0.out)
                                          rintro e w112 ⟨rfl, hb⟩
                                          refine ⟨_, rfl, ?_⟩
                                          have n0_ := Aside0.mk (Kd.R_below (by (with_reducible repeat (first | apply Kd.R_alloc | apply Kd.R_drewN | apply Kd.R_drew)); exact HO_110.out) hb)
                                          have n1_ := Aside0.mk (blk_below (g := gb333) (o := .cells #[.string ((rd_T28 t283 x112_4).f0), .int .i64 ((rd_T28 t283 x112_4).f1)] 28 (0, 0)) (by (with_reducible repeat (first | refine blk_drewN ?_ _ | refine blk_drew ?_ | refine blk_alloc ?_ _)); exact BK333.out) hb)
                                          have n2_ := Aside0.mk (below_step (by repeat (first | (with_reducible first | exact HB.out | apply below_alloc | apply pw_below_drewN | apply below_drew1 | refine below_set ?_ GE333.out) | exact HB.out)) hb)
                                          clear HO_110
                                          clear BK333
                                          clear HB
                                          have HO_110 := n0_
                                          have BK333 := n1_
                                          have HB := n2_
                                          clear n0_ n1_ n2_
                                          (try clear hb)
                                          (try clear hb2)
                                          (try clear hk)
                                          (try clear hi)
                                          refine hK.out _ _ ⟨(blk_cell BK333.out 0).trans rfl, (blk_cell BK333.out 1).trans rfl⟩ (fun hHeld => ?_)
                                          clear hK K
                                          refine norm_ (a' := ?_) ?_ ?_
                                          rotate_left
                                          · show Act.put _ (some 119) _ = _
                                            simp only [Act.put, List.setIfInBounds_toArray, List.set_cons_zero, List.set_cons_succ, i64_w, i32_w]
                                            rfl
                                          refine one_ (i := 7) (N := some 123) #[true, true, true, true, true, true, true, true, false, false] rfl rfl (one_of HT_.out (by kernel_rfl)) (by decide) (fun K hK => ?_)
                                          refine goes_ Try.func12 (by kernel_rfl) rfl #[.slice A1 l1.length c1, .string ((rd_T28 t283 x112_4).f0)] (by rfl) rfl rfl (by (try simp only [List.map_toArray, List.map_cons, List.map_nil]); first | done | rfl | (simp only [List.length_drop, List.length_take]; rfl)) ?_
                                          with_reducible refine (quant_Get.calls k4 _ _ l1 ((rd_T28 t283 x112_4).f0) t335 _ ?side1 ?side2 A77.out).mono ?_
                                          (case side1 => repeat (first | exact (Kd.C_below HR1.out HB.out) | (with_reducible refine Kd.C_alloc ?_ _) | (with_reducible refine Kd.C_drewN ?_ _) | (with_reducible refine Kd.C_drew ?_)))
                                          (case side2 => exact HC1.out)
                                          rintro e w113 ⟨rfl, hb⟩
                                          refine ⟨_, rfl, ?_⟩
                                          have n0_ := Aside0.mk (Kd.R_below (by (with_reducible repeat (first | apply Kd.R_alloc | apply Kd.R_drewN | apply Kd.R_drew)); exact HO_110.out) hb)
                                          have n1_ := Aside0.mk (blk_below (g := gb333) (o := .cells #[.string ((rd_T28 t283 x112_4).f0), .int .i64 ((rd_T28 t283 x112_4).f1)] 28 (0, 0)) (by (with_reducible repeat (first | refine blk_drewN ?_ _ | refine blk_drew ?_ | refine blk_alloc ?_ _)); exact BK333.out) hb)
                                          have n2_ := Aside0.mk (below_step (by repeat (first | (with_reducible first | exact HB.out | apply below_alloc | apply pw_below_drewN | apply below_drew1 | refine below_set ?_ GE333.out) | exact HB.out)) hb)
                                          clear HO_110
                                          clear BK333
                                          clear HB
                                          have HO_110 := n0_
                                          have BK333 := n1_
                                          have HB := n2_
                                          clear n0_ n1_ n2_
                                          (try clear hb)
                                          (try clear hb2)
                                          (try clear hk)
                                          (try clear hi)
                                          refine hK.out _ _ ⟨(blk_cell BK333.out 0).trans rfl, (blk_cell BK333.out 1).trans rfl⟩ (fun hHeld => ?_)
                                          clear hK K
                                          refine norm_ (a' := ?_) ?_ ?_
                                          rotate_left
                                          · show Act.put _ (some 123) _ = _
                                            simp only [Act.put, List.setIfInBounds_toArray, List.set_cons_zero, List.set_cons_succ, i64_w, i32_w]
                                            rfl
                                          refine pure_ (i := 8) (N := some 19) (v := ?_) (a' := ?_) #[true, true, true, true, true, true, true, true, true, false] rfl rfl (any_of HT_.out (by kernel_rfl)) (fun _ _ _ h => h) (Or.inl ⟨by rfl, ?_⟩) ?_ ?_
                                          rotate_left
                                          · intro w'
                                            go_simp
                                            with_reducible rfl
                                          rotate_left
                                          · simp only [Act.put, List.setIfInBounds_toArray, List.set_cons_zero, List.set_cons_succ, i64_w, i32_w]
                                            rfl
                                          refine pure_ (i := 9) (N := some 20) (v := ?_) (a' := ?_) #[true, true, true, true, true, true, true, true, true, true] rfl rfl (any_of HT_.out (by kernel_rfl)) (fun _ _ _ h => h) (Or.inl ⟨by rfl, ?_⟩) ?_ ?_
                                          rotate_left
                                          · intro w'
                                            go_simp
                                            with_reducible rfl
                                          rotate_left
                                          · simp only [Act.put, List.setIfInBounds_toArray, List.set_cons_zero, List.set_cons_succ, i64_w, i32_w]
                                            rfl
                                          refine done_ (done_of HT_.out (by kernel_rfl)) ?_
                                          have hcz114_0 : w113.cell? ⟨gb333, 0, none⟩ = some (.string ((rd_T28 t283 x112_4).f0)) := (blk_cell BK333.out 0).trans rfl
                                          have hcz114_1 : w113.cell? ⟨gb333, 1, none⟩ = some (.int .i64 ((rd_T28 t283 x112_4).f1)) := (blk_cell BK333.out 1).trans rfl
                                          have hfz114_0 := blk_frozen BK333.out 0
                                          have hfz114_1 := blk_frozen BK333.out 1
                                          try go_wp2
                                          go_ret
                                          exact ⟨by first | rfl | (simp [errW_none, errW_some] <;> rfl) | (simp [*, errW_none, errW_some] <;> rfl), by repeat (first | (with_reducible first | exact HB.out | apply below_alloc | apply pw_below_drewN | apply below_drew1 | refine below_set ?_ GE333.out) | exact HB.out)⟩
                                · rw [if_neg c75] at H
                                  exact absurd H (by simp)
                              · rw [if_neg c74] at H
                                exact absurd H (by simp)
                            · rw [if_neg c73] at H
                              have c73b0 : decide (x112_4 < (t283.length : Int)) = false := decide_eq_false c73
                              clear c73
                              obtain rfl := Option.some.inj H
                              go_wp2
                              go_ret
                              exact ⟨by first | rfl | (simp [errW_none, errW_some] <;> rfl) | (simp [*, errW_none, errW_some] <;> rfl), by repeat (first | (with_reducible first | exact HB.out | apply below_alloc | apply pw_below_drewN | apply below_drew1) | exact HB.out)⟩
                · rw [if_neg c45] at H
                  have c45b0 : (t285 == 0) = false := beq_eq_false_iff_ne.mpr c45
                  have c45b1 : (t285 != 0) = true := bne_iff_ne.mpr c45
                  by_cases c115 : t285 = 28
                  · rw [if_pos c115] at H
                    have c115b0 : (t285 == 28) = true := beq_iff_eq.mpr c115
                    have c115b1 : (t285 != 28) = false := bne_eq_false_iff_eq.mpr c115
                    clear c115
                    obtain rfl := Option.some.inj H
                    go_wp2
                    go_ret
                    exact ⟨by first | rfl | (simp [errW_none, errW_some] <;> rfl) | (simp [*, errW_none, errW_some] <;> rfl), by repeat (first | (with_reducible first | exact HB.out | apply below_alloc | apply pw_below_drewN | apply below_drew1) | exact HB.out)⟩
                  · rw [if_neg c115] at H
                    have c115b0 : (t285 == 28) = false := beq_eq_false_iff_ne.mpr c115
                    have c115b1 : (t285 != 28) = true := bne_iff_ne.mpr c115
                    obtain rfl := Option.some.inj H
                    go_wp2
                    go_ret
                    exact ⟨by first | rfl | (simp [errW_none, errW_some] <;> rfl) | (simp [*, errW_none, errW_some] <;> rfl), by repeat (first | (with_reducible first | exact HB.out | apply below_alloc | apply pw_below_drewN | apply below_drew1) | exact HB.out)⟩
  · replace c4 := Bool.eq_false_iff.mpr c4
    subst c4
    have H1 : (some false) = some r := by rw [if_neg (show ¬ (false = true) by decide)] at H; exact H
    clear H
    have H := H1
    clear H1
    obtain rfl := Option.some.inj H
    go_enter Try.func7, Try.ntmps7
    go_wp2_with (first | ((with_reducible refine gate_callee (f := 19) rfl ?_); refine goesL_ (some 21) rfl rfl Try.func19 (by kernel_rfl) rfl #[] rfl (by (try simp only [List.map_toArray, List.map_cons, List.map_nil]); first | done | rfl | (simp only [List.length_drop, List.length_take]; rfl)) ?_; (with_reducible refine (berthlaw02_fixedSum.calls k  false _ A3.out).mono ?_); rintro e w116 ⟨rfl, hb⟩; refine ⟨_, rfl, ?_⟩; have n0_ := Aside0.mk (below_step (by repeat (first | (with_reducible first | exact HB.out | apply below_alloc | apply pw_below_drewN | apply below_drew1) | exact HB.out)) hb); clear HB; have HB := n0_; clear n0_; (try clear hb); (try clear hb2); (try clear hk); (try clear hi)))
    go_ret
    exact ⟨by first | rfl | (simp [errW_none, errW_some] <;> rfl) | (simp [*, errW_none, errW_some] <;> rfl), by repeat (first | (with_reducible first | exact HB.out | apply below_alloc | apply pw_below_drewN | apply below_drew1) | exact HB.out)⟩

end Go.Proofs.Ytbibnendaddbhaa.All
