-- Written by a program of this session (ptx): walks of the translated functions, one after the other. Not trusted: Lean checks it.
import Derived.Test.YtbibnendaddbhaaAllx0
import Derived.Test.YtbibnendaddbhaaAllx2
import Derived.Test.YtbibnendaddbhaaAllx3
namespace Go.Proofs.Ytbibnendaddbhaa.All
open Go.RowKit Go.Proofs.YtbibnendaddbhaaW.PrintWords Go.Proofs.YtbibnendaddbhaaW.PrintLast Go.Proofs.YtbibnendaddbhaaW.PrintMore
attribute [local go_sem] max2_int min2_int max_two min_two max_three min_three max_four min_four   -- for this text's walks alone
attribute [local go_sem] Go.Proofs.YtbibnendaddbhaaX.binOp_leq Go.Proofs.YtbibnendaddbhaaX.binOp_geq Go.Proofs.YtbibnendaddbhaaX.binOp_gtr
set_option linter.unusedVariables false
set_option linter.unusedSimpArgs false

/-! ### berthlaw02_QuantRoom: function 4 -/
mutual
def berthlaw02_QuantRoom.j0 : Nat → List (S28) → List (S28) → List (S28) → Bool → Option (Bool)
  | 0, _, _, _, _ => none
  | k + 1, x0, x1, x2, x30 => if x30 = true then (some false) else ((berthlaw02_Copied.f x0).bind fun t136 => ((berthlaw02_Copied.f x1).bind fun t139 => ((berthlaw02_Copied.f x2).bind fun t142 => ((quant_Short.f k t136 t139 t142).bind fun bt145 => ((berthlaw02_Copied.f x0).bind fun t147 => ((quant_Check.f k t147).bind fun t150 => (if t150 = 0 then ((berthlaw02_Copied.f x1).bind fun t151 => ((quant_Check.f k t151).bind fun t154 => (if t154 = 0 then ((berthlaw02_Copied.f x2).bind fun t155 => ((quant_Check.f k t155).bind fun t158 => (berthlaw02_QuantRoom.j1 k x0 x1 x2 bt145.1 bt145.2 (t158 != 0)))) else (berthlaw02_QuantRoom.j1 k x0 x1 x2 bt145.1 bt145.2 true)))) else (berthlaw02_QuantRoom.j1 k x0 x1 x2 bt145.1 bt145.2 true))))))))
def berthlaw02_QuantRoom.j1 : Nat → List (S28) → List (S28) → List (S28) → ByteArray → Int → Bool → Option (Bool)
  | 0, _, _, _, _, _, _ => none
  | k + 1, x0, x1, x2, x7, x8, x56 => if x56 = true then (if x8 = 0 then (some false) else (some (x7.toList == ([] : List UInt8)))) else (if x8 = 0 then (berthlaw02_QuantRoom.j2 k x0 x1 x2 x7 x8 false) else (berthlaw02_QuantRoom.j2 k x0 x1 x2 x7 x8 (x8 != 29)))
def berthlaw02_QuantRoom.j2 : Nat → List (S28) → List (S28) → List (S28) → ByteArray → Int → Bool → Option (Bool)
  | 0, _, _, _, _, _, _ => none
  | k + 1, x0, x1, x2, x7, x8, x68 => if x68 = true then (some false) else (berthlaw02_QuantRoom.l0 k x1 x2 x7 x8 false x0 (x0.length : Int) 0)
def berthlaw02_QuantRoom.l0 : Nat → List (S28) → List (S28) → ByteArray → Int → Bool → List (S28) → Int → Int → Option (Bool)
  | 0, _, _, _, _, _, _, _, _ => none
  | k + 1, x1, x2, x7, x8, x9, x69, x70, x71 => if x71 < x70 then (if 0 ≤ x71 then (if x71 < (x69.length : Int) then ((quant_Get.f k x1 ((rd_T28 x69 x71).f0)).bind fun t161 => ((quant_Get.f k x2 ((rd_T28 x69 x71).f0)).bind fun t162 => (if x8 = 0 then (berthlaw02_QuantRoom.j4 k x1 x2 x7 x8 x9 (wrap64 (t161 - t162)) x69 x70 x71 true ((rd_T28 x69 x71).f0) ((rd_T28 x69 x71).f1)) else (berthlaw02_QuantRoom.j4 k x1 x2 x7 x8 x9 (wrap64 (t161 - t162)) x69 x70 x71 (Op.bytesLess (((rd_T28 x69 x71).f0).toList) x7.toList) ((rd_T28 x69 x71).f0) ((rd_T28 x69 x71).f1))))) else (none)) else (none)) else (if (x9 == (x8 != 0)) = true then (if x8 = 0 then (some (x7.toList == ([] : List UInt8))) else (some true)) else (some false))
def berthlaw02_QuantRoom.j4 : Nat → List (S28) → List (S28) → ByteArray → Int → Bool → Int → List (S28) → Int → Int → Bool → ByteArray → Int → Option (Bool)
  | 0, _, _, _, _, _, _, _, _, _, _, _, _ => none
  | k + 1, x1, x2, x7, x8, x9, x12, x69, x70, x71, x91, x161000, x161001 => if x91 = true then (if x161001 > x12 then (some false) else (if x8 = 0 then (berthlaw02_QuantRoom.l0 k x1 x2 x7 x8 x9 x69 x70 (wrap64 (x71 + 1))) else (if x161000.toList = x7.toList then (berthlaw02_QuantRoom.l0 k x1 x2 x7 x8 (decide (x161001 > x12)) x69 x70 (wrap64 (x71 + 1))) else (berthlaw02_QuantRoom.l0 k x1 x2 x7 x8 x9 x69 x70 (wrap64 (x71 + 1)))))) else (if x8 = 0 then (berthlaw02_QuantRoom.l0 k x1 x2 x7 x8 x9 x69 x70 (wrap64 (x71 + 1))) else (if x161000.toList = x7.toList then (berthlaw02_QuantRoom.l0 k x1 x2 x7 x8 (decide (x161001 > x12)) x69 x70 (wrap64 (x71 + 1))) else (berthlaw02_QuantRoom.l0 k x1 x2 x7 x8 x9 x69 x70 (wrap64 (x71 + 1)))))
end
def berthlaw02_QuantRoom.f (k : Nat) (l0 : List (S28)) (l1 : List (S28)) (l2 : List (S28)) : Option (Bool) := (quant_Short.f k (([(⟨(⟨#[99, 112, 117]⟩ : ByteArray), 3⟩ : S28), (⟨(⟨#[109, 101, 109]⟩ : ByteArray), 9⟩ : S28)] : List (S28))) (([(⟨(⟨#[99, 112, 117]⟩ : ByteArray), 4⟩ : S28), (⟨(⟨#[109, 101, 109]⟩ : ByteArray), 8⟩ : S28)] : List (S28))) (([(⟨(⟨#[99, 112, 117]⟩ : ByteArray), 2⟩ : S28)] : List (S28)))).bind fun bt134 => (if bt134.1.toList = ([99, 112, 117] : List UInt8) then (berthlaw02_QuantRoom.j0 k l0 l1 l2 (bt134.2 != 29)) else (berthlaw02_QuantRoom.j0 k l0 l1 l2 true))
theorem berthlaw02_QuantRoom.mono_l : ∀ k, (∀ y0 y1 y2 y3, LeO (berthlaw02_QuantRoom.j0 k y0 y1 y2 y3) (berthlaw02_QuantRoom.j0 (k + 1) y0 y1 y2 y3)) ∧ (∀ y0 y1 y2 y3 y4 y5, LeO (berthlaw02_QuantRoom.j1 k y0 y1 y2 y3 y4 y5) (berthlaw02_QuantRoom.j1 (k + 1) y0 y1 y2 y3 y4 y5)) ∧ (∀ y0 y1 y2 y3 y4 y5, LeO (berthlaw02_QuantRoom.j2 k y0 y1 y2 y3 y4 y5) (berthlaw02_QuantRoom.j2 (k + 1) y0 y1 y2 y3 y4 y5)) ∧ (∀ y0 y1 y2 y3 y4 y5 y6 y7, LeO (berthlaw02_QuantRoom.l0 k y0 y1 y2 y3 y4 y5 y6 y7) (berthlaw02_QuantRoom.l0 (k + 1) y0 y1 y2 y3 y4 y5 y6 y7)) ∧ (∀ y0 y1 y2 y3 y4 y5 y6 y7 y8 y9 y10 y11, LeO (berthlaw02_QuantRoom.j4 k y0 y1 y2 y3 y4 y5 y6 y7 y8 y9 y10 y11) (berthlaw02_QuantRoom.j4 (k + 1) y0 y1 y2 y3 y4 y5 y6 y7 y8 y9 y10 y11))
  | 0 => ⟨fun _ _ _ _ r h => by simp [berthlaw02_QuantRoom.j0] at h, fun _ _ _ _ _ _ r h => by simp [berthlaw02_QuantRoom.j1] at h, fun _ _ _ _ _ _ r h => by simp [berthlaw02_QuantRoom.j2] at h, fun _ _ _ _ _ _ _ _ r h => by simp [berthlaw02_QuantRoom.l0] at h, fun _ _ _ _ _ _ _ _ _ _ _ _ r h => by simp [berthlaw02_QuantRoom.j4] at h⟩
  | k + 1 => by
    obtain ⟨ih0, ih1, ih2, ih3, ih4⟩ := berthlaw02_QuantRoom.mono_l k
    refine ⟨?_, ?_, ?_, ?_, ?_⟩
    · intro y0 y1 y2 y3
      unfold berthlaw02_QuantRoom.j0
      repeat' first
      | (with_reducible exact ih0 _ _ _ _)
      | (with_reducible exact ih1 _ _ _ _ _ _)
      | (with_reducible exact ih2 _ _ _ _ _ _)
      | (with_reducible exact ih3 _ _ _ _ _ _ _ _)
      | (with_reducible exact ih4 _ _ _ _ _ _ _ _ _ _ _ _)
      | (with_reducible exact quant_Check.mono _ _)
      | (with_reducible exact quant_Get.mono _ _ _)
      | (with_reducible exact quant_Short.mono _ _ _ _)
      | (with_reducible exact LeO.refl _)
      | (with_reducible exact LeO.none _)
      | (with_reducible refine LeO.ite ?_ ?_)
      | (with_reducible refine LeO.bind ?_ (fun _ => ?_))
      | exact ih0 _ _ _ _
      | exact ih1 _ _ _ _ _ _
      | exact ih2 _ _ _ _ _ _
      | exact ih3 _ _ _ _ _ _ _ _
      | exact ih4 _ _ _ _ _ _ _ _ _ _ _ _
      | exact quant_Check.mono _ _
      | exact quant_Get.mono _ _ _
      | exact quant_Short.mono _ _ _ _
      | exact LeO.none _
      | refine LeO.ite ?_ ?_
      | refine LeO.bind ?_ (fun _ => ?_)
    · intro y0 y1 y2 y3 y4 y5
      unfold berthlaw02_QuantRoom.j1
      repeat' first
      | (with_reducible exact ih0 _ _ _ _)
      | (with_reducible exact ih1 _ _ _ _ _ _)
      | (with_reducible exact ih2 _ _ _ _ _ _)
      | (with_reducible exact ih3 _ _ _ _ _ _ _ _)
      | (with_reducible exact ih4 _ _ _ _ _ _ _ _ _ _ _ _)
      | (with_reducible exact quant_Check.mono _ _)
      | (with_reducible exact quant_Get.mono _ _ _)
      | (with_reducible exact quant_Short.mono _ _ _ _)
      | (with_reducible exact LeO.refl _)
      | (with_reducible exact LeO.none _)
      | (with_reducible refine LeO.ite ?_ ?_)
      | (with_reducible refine LeO.bind ?_ (fun _ => ?_))
      | exact ih0 _ _ _ _
      | exact ih1 _ _ _ _ _ _
      | exact ih2 _ _ _ _ _ _
      | exact ih3 _ _ _ _ _ _ _ _
      | exact ih4 _ _ _ _ _ _ _ _ _ _ _ _
      | exact quant_Check.mono _ _
      | exact quant_Get.mono _ _ _
      | exact quant_Short.mono _ _ _ _
      | exact LeO.none _
      | refine LeO.ite ?_ ?_
      | refine LeO.bind ?_ (fun _ => ?_)
    · intro y0 y1 y2 y3 y4 y5
      unfold berthlaw02_QuantRoom.j2
      repeat' first
      | (with_reducible exact ih0 _ _ _ _)
      | (with_reducible exact ih1 _ _ _ _ _ _)
      | (with_reducible exact ih2 _ _ _ _ _ _)
      | (with_reducible exact ih3 _ _ _ _ _ _ _ _)
      | (with_reducible exact ih4 _ _ _ _ _ _ _ _ _ _ _ _)
      | (with_reducible exact quant_Check.mono _ _)
      | (with_reducible exact quant_Get.mono _ _ _)
      | (with_reducible exact quant_Short.mono _ _ _ _)
      | (with_reducible exact LeO.refl _)
      | (with_reducible exact LeO.none _)
      | (with_reducible refine LeO.ite ?_ ?_)
      | (with_reducible refine LeO.bind ?_ (fun _ => ?_))
      | exact ih0 _ _ _ _
      | exact ih1 _ _ _ _ _ _
      | exact ih2 _ _ _ _ _ _
      | exact ih3 _ _ _ _ _ _ _ _
      | exact ih4 _ _ _ _ _ _ _ _ _ _ _ _
      | exact quant_Check.mono _ _
      | exact quant_Get.mono _ _ _
      | exact quant_Short.mono _ _ _ _
      | exact LeO.none _
      | refine LeO.ite ?_ ?_
      | refine LeO.bind ?_ (fun _ => ?_)
    · intro y0 y1 y2 y3 y4 y5 y6 y7
      unfold berthlaw02_QuantRoom.l0
      repeat' first
      | (with_reducible exact ih0 _ _ _ _)
      | (with_reducible exact ih1 _ _ _ _ _ _)
      | (with_reducible exact ih2 _ _ _ _ _ _)
      | (with_reducible exact ih3 _ _ _ _ _ _ _ _)
      | (with_reducible exact ih4 _ _ _ _ _ _ _ _ _ _ _ _)
      | (with_reducible exact quant_Check.mono _ _)
      | (with_reducible exact quant_Get.mono _ _ _)
      | (with_reducible exact quant_Short.mono _ _ _ _)
      | (with_reducible exact LeO.refl _)
      | (with_reducible exact LeO.none _)
      | (with_reducible refine LeO.ite ?_ ?_)
      | (with_reducible refine LeO.bind ?_ (fun _ => ?_))
      | exact ih0 _ _ _ _
      | exact ih1 _ _ _ _ _ _
      | exact ih2 _ _ _ _ _ _
      | exact ih3 _ _ _ _ _ _ _ _
      | exact ih4 _ _ _ _ _ _ _ _ _ _ _ _
      | exact quant_Check.mono _ _
      | exact quant_Get.mono _ _ _
      | exact quant_Short.mono _ _ _ _
      | exact LeO.none _
      | refine LeO.ite ?_ ?_
      | refine LeO.bind ?_ (fun _ => ?_)
    · intro y0 y1 y2 y3 y4 y5 y6 y7 y8 y9 y10 y11
      unfold berthlaw02_QuantRoom.j4
      repeat' first
      | (with_reducible exact ih0 _ _ _ _)
      | (with_reducible exact ih1 _ _ _ _ _ _)
      | (with_reducible exact ih2 _ _ _ _ _ _)
      | (with_reducible exact ih3 _ _ _ _ _ _ _ _)
      | (with_reducible exact ih4 _ _ _ _ _ _ _ _ _ _ _ _)
      | (with_reducible exact quant_Check.mono _ _)
      | (with_reducible exact quant_Get.mono _ _ _)
      | (with_reducible exact quant_Short.mono _ _ _ _)
      | (with_reducible exact LeO.refl _)
      | (with_reducible exact LeO.none _)
      | (with_reducible refine LeO.ite ?_ ?_)
      | (with_reducible refine LeO.bind ?_ (fun _ => ?_))
      | exact ih0 _ _ _ _
      | exact ih1 _ _ _ _ _ _
      | exact ih2 _ _ _ _ _ _
      | exact ih3 _ _ _ _ _ _ _ _
      | exact ih4 _ _ _ _ _ _ _ _ _ _ _ _
      | exact quant_Check.mono _ _
      | exact quant_Get.mono _ _ _
      | exact quant_Short.mono _ _ _ _
      | exact LeO.none _
      | refine LeO.ite ?_ ?_
      | refine LeO.bind ?_ (fun _ => ?_)
theorem berthlaw02_QuantRoom.mono : ∀ a0 a1 a2 k, LeO (berthlaw02_QuantRoom.f k a0 a1 a2) (berthlaw02_QuantRoom.f (k + 1) a0 a1 a2) := by
  intro a0 a1 a2 k
  obtain ⟨ih0, ih1, ih2, ih3, ih4⟩ := berthlaw02_QuantRoom.mono_l k
  unfold berthlaw02_QuantRoom.f
  repeat' first
      | (with_reducible exact ih0 _ _ _ _)
      | (with_reducible exact ih1 _ _ _ _ _ _)
      | (with_reducible exact ih2 _ _ _ _ _ _)
      | (with_reducible exact ih3 _ _ _ _ _ _ _ _)
      | (with_reducible exact ih4 _ _ _ _ _ _ _ _ _ _ _ _)
      | (with_reducible exact quant_Check.mono _ _)
      | (with_reducible exact quant_Get.mono _ _ _)
      | (with_reducible exact quant_Short.mono _ _ _ _)
      | (with_reducible exact LeO.refl _)
      | (with_reducible exact LeO.none _)
      | (with_reducible refine LeO.ite ?_ ?_)
      | (with_reducible refine LeO.bind ?_ (fun _ => ?_))
      | exact ih0 _ _ _ _
      | exact ih1 _ _ _ _ _ _
      | exact ih2 _ _ _ _ _ _
      | exact ih3 _ _ _ _ _ _ _ _
      | exact ih4 _ _ _ _ _ _ _ _ _ _ _ _
      | exact quant_Check.mono _ _
      | exact quant_Get.mono _ _ _
      | exact quant_Short.mono _ _ _ _
      | exact LeO.none _
      | refine LeO.ite ?_ ?_
      | refine LeO.bind ?_ (fun _ => ?_)
def berthlaw02_QuantRoom.T13 : Bool × List (List Nat × List Nat) := (true, [([], []), ([], []), ([1], [1]), ([0, 2], [0, 2]), ([], []), ([], []), ([5], [5]), ([4, 6, 3], [4, 6]), ([3, 7], [3, 7]), ([8, 7, 0, 1, 2, 3, 4, 5, 6, 7, 8], [8])])
def berthlaw02_QuantRoom.B13 : List Nat := [0, 0, 2, 7, 0, 0, 32, 127, 255, 511]
theorem berthlaw02_QuantRoom.tab13 : rtab .any (opsOf Try.f4 13) = berthlaw02_QuantRoom.T13 := by kernel_rfl
theorem berthlaw02_QuantRoom.bits13 : waitsOk berthlaw02_QuantRoom.T13.2 berthlaw02_QuantRoom.B13 = true := by kernel_rfl
set_option maxHeartbeats 8000000 in
set_option maxRecDepth 100000 in
theorem berthlaw02_QuantRoom.calls (k : Nat) (A0 : Option Addr) (c0 : Nat) (l0 : List (S28)) (A1 : Option Addr) (c1 : Nat) (l1 : List (S28)) (A2 : Option Addr) (c2 : Nat) (l2 : List (S28)) (r : Bool) (w : World) (hr0 : Kd.C k28 w A0 l0.length l0) (hc0 : l0.length ≤ c0) (hr1 : Kd.C k28 w A1 l1.length l1) (hc1 : l1.length ≤ c1) (hr2 : Kd.C k28 w A2 l2.length l2) (hc2 : l2.length ≤ c2) (h : berthlaw02_QuantRoom.f k l0 l1 l2 = some r) :
    Calls Try.prog 4 #[.slice A0 l0.length c0, .slice A1 l1.length c1, .slice A2 l2.length c2] w fun e w' => e = .returned (.bool r) ∧ Below w.heap.size w w' := by
  have hu28 := Try.underlying28
  have HR0 := Aside0.mk hr0
  have HC0 := Aside0.mk hc0
  clear hr0 hc0
  have HR1 := Aside0.mk hr1
  have HC1 := Aside0.mk hc1
  clear hr1 hc1
  have HR2 := Aside0.mk hr2
  have HC2 := Aside0.mk hc2
  clear hr2 hc2
  have HB := Aside0.mk (Below.refl w.heap.size w)
  have H : ((quant_Short.f k (([(⟨(⟨#[99, 112, 117]⟩ : ByteArray), 3⟩ : S28), (⟨(⟨#[109, 101, 109]⟩ : ByteArray), 9⟩ : S28)] : List (S28))) (([(⟨(⟨#[99, 112, 117]⟩ : ByteArray), 4⟩ : S28), (⟨(⟨#[109, 101, 109]⟩ : ByteArray), 8⟩ : S28)] : List (S28))) (([(⟨(⟨#[99, 112, 117]⟩ : ByteArray), 2⟩ : S28)] : List (S28)))).bind fun bt134 => (if bt134.1.toList = ([99, 112, 117] : List UInt8) then (berthlaw02_QuantRoom.j0 k l0 l1 l2 (bt134.2 != 29)) else (berthlaw02_QuantRoom.j0 k l0 l1 l2 true))) = some r := h
  clear h
  obtain ⟨y125, hy125⟩ : ∃ y_ : List (S28), y_ = (([(⟨(⟨#[99, 112, 117]⟩ : ByteArray), 3⟩ : S28), (⟨(⟨#[109, 101, 109]⟩ : ByteArray), 9⟩ : S28)] : List (S28))) := ⟨_, rfl⟩
  replace H : ((quant_Short.f k y125 (([(⟨(⟨#[99, 112, 117]⟩ : ByteArray), 4⟩ : S28), (⟨(⟨#[109, 101, 109]⟩ : ByteArray), 8⟩ : S28)] : List (S28))) (([(⟨(⟨#[99, 112, 117]⟩ : ByteArray), 2⟩ : S28)] : List (S28)))).bind fun bt134 => (if bt134.1.toList = ([99, 112, 117] : List UInt8) then (berthlaw02_QuantRoom.j0 k l0 l1 l2 (bt134.2 != 29)) else (berthlaw02_QuantRoom.j0 k l0 l1 l2 true))) = some r := by first | (rw [hy125]; with_reducible exact H) | (have H2_ := (Option.bind_some _ _).symm.trans H; rw [hy125]; with_reducible exact H2_) | (have H2_ := (Option.bind_some _ _).symm.trans H; with_reducible exact H2_) | with_reducible exact H | (rw [hy125]; exact H) | exact H
  have Ny125 := Aside0.mk hy125
  clear hy125
  obtain ⟨y128, hy128⟩ : ∃ y_ : List (S28), y_ = (([(⟨(⟨#[99, 112, 117]⟩ : ByteArray), 4⟩ : S28), (⟨(⟨#[109, 101, 109]⟩ : ByteArray), 8⟩ : S28)] : List (S28))) := ⟨_, rfl⟩
  replace H : ((quant_Short.f k y125 y128 (([(⟨(⟨#[99, 112, 117]⟩ : ByteArray), 2⟩ : S28)] : List (S28)))).bind fun bt134 => (if bt134.1.toList = ([99, 112, 117] : List UInt8) then (berthlaw02_QuantRoom.j0 k l0 l1 l2 (bt134.2 != 29)) else (berthlaw02_QuantRoom.j0 k l0 l1 l2 true))) = some r := by first | (rw [hy128]; with_reducible exact H) | (have H2_ := (Option.bind_some _ _).symm.trans H; rw [hy128]; with_reducible exact H2_) | (have H2_ := (Option.bind_some _ _).symm.trans H; with_reducible exact H2_) | with_reducible exact H | (rw [hy128]; exact H) | exact H
  have Ny128 := Aside0.mk hy128
  clear hy128
  obtain ⟨y131, hy131⟩ : ∃ y_ : List (S28), y_ = (([(⟨(⟨#[99, 112, 117]⟩ : ByteArray), 2⟩ : S28)] : List (S28))) := ⟨_, rfl⟩
  replace H : ((quant_Short.f k y125 y128 y131).bind fun bt134 => (if bt134.1.toList = ([99, 112, 117] : List UInt8) then (berthlaw02_QuantRoom.j0 k l0 l1 l2 (bt134.2 != 29)) else (berthlaw02_QuantRoom.j0 k l0 l1 l2 true))) = some r := by first | (rw [hy131]; with_reducible exact H) | (have H2_ := (Option.bind_some _ _).symm.trans H; rw [hy131]; with_reducible exact H2_) | (have H2_ := (Option.bind_some _ _).symm.trans H; with_reducible exact H2_) | with_reducible exact H | (rw [hy131]; exact H) | exact H
  have Ny131 := Aside0.mk hy131
  clear hy131
  replace H := Option.bind_eq_some_iff.mp H
  obtain ⟨⟨t134, t135⟩, A40, H⟩ := H
  replace H : (if t134.toList = ([99, 112, 117] : List UInt8) then (berthlaw02_QuantRoom.j0 k l0 l1 l2 (t135 != 29)) else (berthlaw02_QuantRoom.j0 k l0 l1 l2 true)) = some r := H
  have A4 := Aside0.mk A40
  clear A40
  have HC5 := Aside0.mk H
  clear H
  go_enter Try.func4, Try.ntmps4
  go_upto_region 2 with (first | ((with_reducible refine gate_dst (N := 16) rfl ?_); refine Kd.R_lit k28 _ 28 ?hg (N := 16) ?hd (xs := ([(⟨(⟨#[99, 112, 117]⟩ : ByteArray), 3⟩ : S28), (⟨(⟨#[109, 101, 109]⟩ : ByteArray), 9⟩ : S28)] : List (S28))) (inner := [.string (⟨#[99, 112, 117]⟩ : ByteArray), .int .i64 3, .string (⟨#[109, 101, 109]⟩ : ByteArray), .int .i64 9]) (ok := fun _ => True) (okp := fun _ => True) ?hr ?hp (fun _ hk => hk) trivial (Below.refl _ _) (Nat.le_refl _) (by simp) ?_; (case hd => rfl); (case hg => rfl); (case hr => first | (go_simp; done) | (go_simp; rfl)); (case hp => exact (Reps.c2 (show Kd.M k28 _ _ _ (⟨(⟨#[99, 112, 117]⟩ : ByteArray), 3⟩ : S28) [.string (⟨#[99, 112, 117]⟩ : ByteArray), .int .i64 3] from (k28_mkM _ _ _ (⟨(⟨#[99, 112, 117]⟩ : ByteArray), 3⟩ : S28) )) (Reps.c2 (show Kd.M k28 _ _ _ (⟨(⟨#[109, 101, 109]⟩ : ByteArray), 9⟩ : S28) [.string (⟨#[109, 101, 109]⟩ : ByteArray), .int .i64 9] from (k28_mkM _ _ _ (⟨(⟨#[109, 101, 109]⟩ : ByteArray), 9⟩ : S28) )) (Reps.none _ _)))); intro v126 w6 ho7 hb hg_ hnew_; clear hg_ hnew_; (first | rw [← Ny125.out] at ho7 | (simp only [Int.reduceToNat] at ho7; rw [← Ny125.out] at ho7)); have n0_ := Aside0.mk (Kd.R_lower ho7 (below_size (by repeat (first | (with_reducible first | exact HB.out | apply below_alloc | apply pw_below_drewN | apply below_drew1) | exact HB.out)))); have n1_ := Aside0.mk (below_step (by repeat (first | (with_reducible first | exact HB.out | apply below_alloc | apply pw_below_drewN | apply below_drew1) | exact HB.out)) hb); clear HB; have HO127 := n0_; have HB := n1_; clear n0_ n1_; clear hb ho7) | ((with_reducible refine gate_dst (N := 19) rfl ?_); refine Kd.R_lit k28 _ 28 ?hg (N := 19) ?hd (xs := ([(⟨(⟨#[99, 112, 117]⟩ : ByteArray), 4⟩ : S28), (⟨(⟨#[109, 101, 109]⟩ : ByteArray), 8⟩ : S28)] : List (S28))) (inner := [.string (⟨#[99, 112, 117]⟩ : ByteArray), .int .i64 4, .string (⟨#[109, 101, 109]⟩ : ByteArray), .int .i64 8]) (ok := fun _ => True) (okp := fun _ => True) ?hr ?hp (fun _ hk => hk) trivial (Below.refl _ _) (Nat.le_refl _) (by simp) ?_; (case hd => rfl); (case hg => rfl); (case hr => first | (go_simp; done) | (go_simp; rfl)); (case hp => exact (Reps.c2 (show Kd.M k28 _ _ _ (⟨(⟨#[99, 112, 117]⟩ : ByteArray), 4⟩ : S28) [.string (⟨#[99, 112, 117]⟩ : ByteArray), .int .i64 4] from (k28_mkM _ _ _ (⟨(⟨#[99, 112, 117]⟩ : ByteArray), 4⟩ : S28) )) (Reps.c2 (show Kd.M k28 _ _ _ (⟨(⟨#[109, 101, 109]⟩ : ByteArray), 8⟩ : S28) [.string (⟨#[109, 101, 109]⟩ : ByteArray), .int .i64 8] from (k28_mkM _ _ _ (⟨(⟨#[109, 101, 109]⟩ : ByteArray), 8⟩ : S28) )) (Reps.none _ _)))); intro v129 w8 ho9 hb hg_ hnew_; clear hg_ hnew_; (first | rw [← Ny128.out] at ho9 | (simp only [Int.reduceToNat] at ho9; rw [← Ny128.out] at ho9)); have n0_ := Aside0.mk (Kd.R_elder' (by (with_reducible repeat (first | apply Kd.R_alloc | apply Kd.R_drewN | apply Kd.R_drew)); exact HO127.out) (Kd.R_base ho9) hb); have n1_ := Aside0.mk (Kd.R_lower (Kd.R_new' ho9 (Kd.R_lt (by (with_reducible repeat (first | apply Kd.R_alloc | apply Kd.R_drewN | apply Kd.R_drew)); exact HO127.out))) (below_size (by repeat (first | (with_reducible first | exact HB.out | apply below_alloc | apply pw_below_drewN | apply below_drew1) | exact HB.out)))); have n2_ := Aside0.mk (below_step (by repeat (first | (with_reducible first | exact HB.out | apply below_alloc | apply pw_below_drewN | apply below_drew1) | exact HB.out)) hb); clear HO127; clear HB; have HO127 := n0_; have HO130 := n1_; have HB := n2_; clear n0_ n1_ n2_; clear hb ho9) | ((with_reducible refine gate_dst (N := 21) rfl ?_); refine Kd.R_lit k28 _ 28 ?hg (N := 21) ?hd (xs := ([(⟨(⟨#[99, 112, 117]⟩ : ByteArray), 2⟩ : S28)] : List (S28))) (inner := [.string (⟨#[99, 112, 117]⟩ : ByteArray), .int .i64 2]) (ok := fun _ => True) (okp := fun _ => True) ?hr ?hp (fun _ hk => hk) trivial (Below.refl _ _) (Nat.le_refl _) (by simp) ?_; (case hd => rfl); (case hg => rfl); (case hr => first | (go_simp; done) | (go_simp; rfl)); (case hp => exact (Reps.c2 (show Kd.M k28 _ _ _ (⟨(⟨#[99, 112, 117]⟩ : ByteArray), 2⟩ : S28) [.string (⟨#[99, 112, 117]⟩ : ByteArray), .int .i64 2] from (k28_mkM _ _ _ (⟨(⟨#[99, 112, 117]⟩ : ByteArray), 2⟩ : S28) )) (Reps.none _ _))); intro v132 w10 ho11 hb hg_ hnew_; clear hg_ hnew_; (first | rw [← Ny131.out] at ho11 | (simp only [Int.reduceToNat] at ho11; rw [← Ny131.out] at ho11)); have n0_ := Aside0.mk (Kd.R_elder' (by (with_reducible repeat (first | apply Kd.R_alloc | apply Kd.R_drewN | apply Kd.R_drew)); exact HO127.out) (Kd.R_base ho11) hb); have n1_ := Aside0.mk (Kd.R_elder' (by (with_reducible repeat (first | apply Kd.R_alloc | apply Kd.R_drewN | apply Kd.R_drew)); exact HO130.out) (Kd.R_base ho11) hb); have n2_ := Aside0.mk (Kd.R_lower (Kd.R_new' (Kd.R_new' ho11 (Kd.R_lt (by (with_reducible repeat (first | apply Kd.R_alloc | apply Kd.R_drewN | apply Kd.R_drew)); exact HO127.out))) (Kd.R_lt (by (with_reducible repeat (first | apply Kd.R_alloc | apply Kd.R_drewN | apply Kd.R_drew)); exact HO130.out))) (below_size (by repeat (first | (with_reducible first | exact HB.out | apply below_alloc | apply pw_below_drewN | apply below_drew1) | exact HB.out)))); have n3_ := Aside0.mk (below_step (by repeat (first | (with_reducible first | exact HB.out | apply below_alloc | apply pw_below_drewN | apply below_drew1) | exact HB.out)) hb); clear HO127; clear HO130; clear HB; have HO127 := n0_; have HO130 := n1_; have HO133 := n2_; have HB := n3_; clear n0_ n1_ n2_ n3_; clear hb ho11; obtain ⟨Ao12, co12, eo12⟩ := Kd.R_slice HO127.out; subst eo12; obtain ⟨Ao13, co13, eo13⟩ := Kd.R_slice HO130.out; subst eo13; obtain ⟨Ao14, co14, eo14⟩ := Kd.R_slice HO133.out; subst eo14) | ((with_reducible refine gate_callee (f := 9) rfl ?_); refine goesL_ (some 22) rfl rfl Try.func9 (by kernel_rfl) rfl #[.slice Ao12 y125.length co12, .slice Ao13 y128.length co13, .slice Ao14 y131.length co14] rfl (by (try simp only [List.map_toArray, List.map_cons, List.map_nil]); first | done | rfl | (simp only [List.length_drop, List.length_take]; rfl)) ?_; (with_reducible refine (quant_Short.calls k _ _ y125 _ _ y128 _ _ y131 t134 t135 _ ?side1 ?side2 ?side3 ?side4 ?side5 ?side6 A4.out).mono ?_); (case side1 => repeat (first | exact (Kd.R_reads' HO127.out).2.2 | (with_reducible refine Kd.C_alloc ?_ _) | (with_reducible refine Kd.C_drewN ?_ _) | (with_reducible refine Kd.C_drew ?_))); (case side2 => exact (Kd.R_reads' HO127.out).2.1); (case side3 => repeat (first | exact (Kd.R_reads' HO130.out).2.2 | (with_reducible refine Kd.C_alloc ?_ _) | (with_reducible refine Kd.C_drewN ?_ _) | (with_reducible refine Kd.C_drew ?_))); (case side4 => exact (Kd.R_reads' HO130.out).2.1); (case side5 => repeat (first | exact (Kd.R_reads' HO133.out).2.2 | (with_reducible refine Kd.C_alloc ?_ _) | (with_reducible refine Kd.C_drewN ?_ _) | (with_reducible refine Kd.C_drew ?_))); (case side6 => exact (Kd.R_reads' HO133.out).2.1); rintro e w15 ⟨rfl, hb⟩; refine ⟨_, rfl, ?_⟩; have n0_ := Aside0.mk (Kd.R_below (by (with_reducible repeat (first | apply Kd.R_alloc | apply Kd.R_drewN | apply Kd.R_drew)); exact HO127.out) hb); have n1_ := Aside0.mk (Kd.R_below (by (with_reducible repeat (first | apply Kd.R_alloc | apply Kd.R_drewN | apply Kd.R_drew)); exact HO130.out) hb); have n2_ := Aside0.mk (Kd.R_below (by (with_reducible repeat (first | apply Kd.R_alloc | apply Kd.R_drewN | apply Kd.R_drew)); exact HO133.out) hb); have n3_ := Aside0.mk (below_step (by repeat (first | (with_reducible first | exact HB.out | apply below_alloc | apply pw_below_drewN | apply below_drew1) | exact HB.out)) hb); clear HO127; clear HO130; clear HO133; clear HB; have HO127 := n0_; have HO130 := n1_; have HO133 := n2_; have HB := n3_; clear n0_ n1_ n2_ n3_; (try clear hb); (try clear hb2); (try clear hk); (try clear hi)))
  (try simp only [Act.put, List.setIfInBounds_toArray, List.set_cons_zero, List.set_cons_succ])
  go_cut [30] (fun v30 wc => ∃ (kq : Nat) (x30_4 : Bool), v30 = .bool x30_4 ∧ Aside0 (berthlaw02_QuantRoom.j0 kq l0 l1 l2 x30_4 = some r) ∧ Aside0 (kq ≤ k) ∧ Aside0 (Below w.heap.size w wc))
  case first =>
    have H := HC5.out
    clear HC5
    by_cases c16 : t134.toList = ([99, 112, 117] : List UInt8)
    · rw [if_pos c16] at H
      have c16b0 : (t134.toList == ([99, 112, 117] : List UInt8)) = true := beq_iff_eq.mpr c16
      have c16b1 : (t134.toList != ([99, 112, 117] : List UInt8)) = false := bne_eq_false_iff_eq.mpr c16
      clear c16
      (first | rw [c16b0] | (simp only [i64_w, i32_w]; rw [c16b0]) | skip)
      have H' := Aside0.mk H
      clear H
      go_wp2
      go_meet
      case rel => exact ⟨_, ((t135 != 29)), (by first | rfl | (simp; done) | (simp [*]; done) | (simp only [i64_w]; done) | (simp [i64_w, Int.tdiv_eq_ediv_of_nonneg]; done)), H', ⟨by first | omega | exact Nat.le_refl _⟩, ⟨by repeat (first | (with_reducible first | exact HB.out | apply below_alloc | apply pw_below_drewN | apply below_drew1) | exact HB.out)⟩⟩
    · rw [if_neg c16] at H
      have c16b0 : (t134.toList == ([99, 112, 117] : List UInt8)) = false := beq_eq_false_iff_ne.mpr c16
      have c16b1 : (t134.toList != ([99, 112, 117] : List UInt8)) = true := bne_iff_ne.mpr c16
      (first | rw [c16b0] | (simp only [i64_w, i32_w]; rw [c16b0]) | skip)
      have H' := Aside0.mk H
      clear H
      go_wp2
      go_meet
      case rel => exact ⟨_, (true), (by first | rfl | (simp; done) | (simp [*]; done) | (simp only [i64_w]; done) | (simp [i64_w, Int.tdiv_eq_ediv_of_nonneg]; done)), H', ⟨by first | omega | exact Nat.le_refl _⟩, ⟨by repeat (first | (with_reducible first | exact HB.out | apply below_alloc | apply pw_below_drewN | apply below_drew1) | exact HB.out)⟩⟩
  case rest =>
    clear HC5
    try clear c1
    try clear c2
    try clear p2
    try clear c4
    try clear c9
    try clear c16
    try clear c16b0
    try clear c16b1
    obtain ⟨kq, x30_4, rfl, HA, HJ4, HB⟩ := hcut
    cases kq with
    | zero => exact absurd HA.out (by simp [berthlaw02_QuantRoom.j0])
    | succ kj4 =>
      have H := HA.out
      clear HA
      simp only [berthlaw02_QuantRoom.j0] at H
      by_cases c17 : x30_4 = true
      · subst c17
        have H1 : (some false) = some r := by rw [if_pos rfl] at H; exact H
        clear H
        have H := H1
        clear H1
        obtain rfl := Option.some.inj H
        go_wp2
        go_ret
        exact ⟨by first | rfl | (simp [errW_none, errW_some] <;> rfl) | (simp [*, errW_none, errW_some] <;> rfl), by repeat (first | (with_reducible first | exact HB.out | apply below_alloc | apply pw_below_drewN | apply below_drew1) | exact HB.out)⟩
      · replace c17 := Bool.eq_false_iff.mpr c17
        subst c17
        have H1 : ((berthlaw02_Copied.f l0).bind fun t136 => ((berthlaw02_Copied.f l1).bind fun t139 => ((berthlaw02_Copied.f l2).bind fun t142 => ((quant_Short.f kj4 t136 t139 t142).bind fun bt145 => ((berthlaw02_Copied.f l0).bind fun t147 => ((quant_Check.f kj4 t147).bind fun t150 => (if t150 = 0 then ((berthlaw02_Copied.f l1).bind fun t151 => ((quant_Check.f kj4 t151).bind fun t154 => (if t154 = 0 then ((berthlaw02_Copied.f l2).bind fun t155 => ((quant_Check.f kj4 t155).bind fun t158 => (berthlaw02_QuantRoom.j1 kj4 l0 l1 l2 bt145.1 bt145.2 (t158 != 0)))) else (berthlaw02_QuantRoom.j1 kj4 l0 l1 l2 bt145.1 bt145.2 true)))) else (berthlaw02_QuantRoom.j1 kj4 l0 l1 l2 bt145.1 bt145.2 true)))))))) = some r := by rw [if_neg (show ¬ (false = true) by decide)] at H; exact H
        clear H
        have H := H1
        clear H1
        replace H := Option.bind_eq_some_iff.mp H
        obtain ⟨t136, A180, H⟩ := H
        replace H : ((berthlaw02_Copied.f l1).bind fun t139 => ((berthlaw02_Copied.f l2).bind fun t142 => ((quant_Short.f kj4 t136 t139 t142).bind fun bt145 => ((berthlaw02_Copied.f l0).bind fun t147 => ((quant_Check.f kj4 t147).bind fun t150 => (if t150 = 0 then ((berthlaw02_Copied.f l1).bind fun t151 => ((quant_Check.f kj4 t151).bind fun t154 => (if t154 = 0 then ((berthlaw02_Copied.f l2).bind fun t155 => ((quant_Check.f kj4 t155).bind fun t158 => (berthlaw02_QuantRoom.j1 kj4 l0 l1 l2 bt145.1 bt145.2 (t158 != 0)))) else (berthlaw02_QuantRoom.j1 kj4 l0 l1 l2 bt145.1 bt145.2 true)))) else (berthlaw02_QuantRoom.j1 kj4 l0 l1 l2 bt145.1 bt145.2 true))))))) = some r := H
        have A18 := Aside0.mk A180
        clear A180
        replace H := Option.bind_eq_some_iff.mp H
        obtain ⟨t139, A190, H⟩ := H
        replace H : ((berthlaw02_Copied.f l2).bind fun t142 => ((quant_Short.f kj4 t136 t139 t142).bind fun bt145 => ((berthlaw02_Copied.f l0).bind fun t147 => ((quant_Check.f kj4 t147).bind fun t150 => (if t150 = 0 then ((berthlaw02_Copied.f l1).bind fun t151 => ((quant_Check.f kj4 t151).bind fun t154 => (if t154 = 0 then ((berthlaw02_Copied.f l2).bind fun t155 => ((quant_Check.f kj4 t155).bind fun t158 => (berthlaw02_QuantRoom.j1 kj4 l0 l1 l2 bt145.1 bt145.2 (t158 != 0)))) else (berthlaw02_QuantRoom.j1 kj4 l0 l1 l2 bt145.1 bt145.2 true)))) else (berthlaw02_QuantRoom.j1 kj4 l0 l1 l2 bt145.1 bt145.2 true)))))) = some r := H
        have A19 := Aside0.mk A190
        clear A190
        replace H := Option.bind_eq_some_iff.mp H
        obtain ⟨t142, A200, H⟩ := H
        replace H : ((quant_Short.f kj4 t136 t139 t142).bind fun bt145 => ((berthlaw02_Copied.f l0).bind fun t147 => ((quant_Check.f kj4 t147).bind fun t150 => (if t150 = 0 then ((berthlaw02_Copied.f l1).bind fun t151 => ((quant_Check.f kj4 t151).bind fun t154 => (if t154 = 0 then ((berthlaw02_Copied.f l2).bind fun t155 => ((quant_Check.f kj4 t155).bind fun t158 => (berthlaw02_QuantRoom.j1 kj4 l0 l1 l2 bt145.1 bt145.2 (t158 != 0)))) else (berthlaw02_QuantRoom.j1 kj4 l0 l1 l2 bt145.1 bt145.2 true)))) else (berthlaw02_QuantRoom.j1 kj4 l0 l1 l2 bt145.1 bt145.2 true))))) = some r := H
        have A20 := Aside0.mk A200
        clear A200
        replace H := Option.bind_eq_some_iff.mp H
        obtain ⟨⟨t145, t146⟩, A210, H⟩ := H
        replace H : ((berthlaw02_Copied.f l0).bind fun t147 => ((quant_Check.f kj4 t147).bind fun t150 => (if t150 = 0 then ((berthlaw02_Copied.f l1).bind fun t151 => ((quant_Check.f kj4 t151).bind fun t154 => (if t154 = 0 then ((berthlaw02_Copied.f l2).bind fun t155 => ((quant_Check.f kj4 t155).bind fun t158 => (berthlaw02_QuantRoom.j1 kj4 l0 l1 l2 t145 t146 (t158 != 0)))) else (berthlaw02_QuantRoom.j1 kj4 l0 l1 l2 t145 t146 true)))) else (berthlaw02_QuantRoom.j1 kj4 l0 l1 l2 t145 t146 true)))) = some r := H
        have A21 := Aside0.mk A210
        clear A210
        have HC22 := Aside0.mk H
        clear H
        go_upto_region 5 with (first | ((with_reducible refine gate_callee (f := 10) rfl ?_); refine goesL_ (some 33) rfl rfl Try.func10 (by kernel_rfl) rfl #[.slice A0 l0.length c0] rfl (by (try simp only [List.map_toArray, List.map_cons, List.map_nil]); first | done | rfl | (simp only [List.length_drop, List.length_take]; rfl)) ?_; (with_reducible refine (berthlaw02_Copied.calls _ _ l0 t136 _ ?side1 ?side2 A18.out).mono ?_); (case side1 => repeat (first | exact (Kd.C_below HR0.out HB.out) | (with_reducible refine Kd.C_alloc ?_ _) | (with_reducible refine Kd.C_drewN ?_ _) | (with_reducible refine Kd.C_drew ?_))); (case side2 => exact HC0.out); rintro e w23 ⟨v137, rfl, ho0, hb⟩; refine ⟨_, rfl, ?_⟩; have n0_ := Aside0.mk (Kd.R_lower ho0 (below_size (by repeat (first | (with_reducible first | exact HB.out | apply below_alloc | apply pw_below_drewN | apply below_drew1) | exact HB.out)))); have n1_ := Aside0.mk (below_step (by repeat (first | (with_reducible first | exact HB.out | apply below_alloc | apply pw_below_drewN | apply below_drew1) | exact HB.out)) hb); clear HB; have HO138 := n0_; have HB := n1_; clear n0_ n1_; (try clear hb); (try clear hb2); (try clear hk); (try clear hi); (try clear ho0)) | ((with_reducible refine gate_callee (f := 10) rfl ?_); refine goesL_ (some 35) rfl rfl Try.func10 (by kernel_rfl) rfl #[.slice A1 l1.length c1] rfl (by (try simp only [List.map_toArray, List.map_cons, List.map_nil]); first | done | rfl | (simp only [List.length_drop, List.length_take]; rfl)) ?_; (with_reducible refine (berthlaw02_Copied.calls _ _ l1 t139 _ ?side1 ?side2 A19.out).mono ?_); (case side1 => repeat (first | exact (Kd.C_below HR1.out HB.out) | (with_reducible refine Kd.C_alloc ?_ _) | (with_reducible refine Kd.C_drewN ?_ _) | (with_reducible refine Kd.C_drew ?_))); (case side2 => exact HC1.out); rintro e w24 ⟨v140, rfl, ho0, hb⟩; refine ⟨_, rfl, ?_⟩; have n0_ := Aside0.mk (Kd.R_elder' (by (with_reducible repeat (first | apply Kd.R_alloc | apply Kd.R_drewN | apply Kd.R_drew)); exact HO138.out) (Kd.R_base ho0) hb); have n1_ := Aside0.mk (Kd.R_lower (Kd.R_new' ho0 (Kd.R_lt (by (with_reducible repeat (first | apply Kd.R_alloc | apply Kd.R_drewN | apply Kd.R_drew)); exact HO138.out))) (below_size (by repeat (first | (with_reducible first | exact HB.out | apply below_alloc | apply pw_below_drewN | apply below_drew1) | exact HB.out)))); have n2_ := Aside0.mk (below_step (by repeat (first | (with_reducible first | exact HB.out | apply below_alloc | apply pw_below_drewN | apply below_drew1) | exact HB.out)) hb); clear HO138; clear HB; have HO138 := n0_; have HO141 := n1_; have HB := n2_; clear n0_ n1_ n2_; (try clear hb); (try clear hb2); (try clear hk); (try clear hi); (try clear ho0)) | ((with_reducible refine gate_callee (f := 10) rfl ?_); refine goesL_ (some 37) rfl rfl Try.func10 (by kernel_rfl) rfl #[.slice A2 l2.length c2] rfl (by (try simp only [List.map_toArray, List.map_cons, List.map_nil]); first | done | rfl | (simp only [List.length_drop, List.length_take]; rfl)) ?_; (with_reducible refine (berthlaw02_Copied.calls _ _ l2 t142 _ ?side1 ?side2 A20.out).mono ?_); (case side1 => repeat (first | exact (Kd.C_below HR2.out HB.out) | (with_reducible refine Kd.C_alloc ?_ _) | (with_reducible refine Kd.C_drewN ?_ _) | (with_reducible refine Kd.C_drew ?_))); (case side2 => exact HC2.out); rintro e w25 ⟨v143, rfl, ho0, hb⟩; refine ⟨_, rfl, ?_⟩; have n0_ := Aside0.mk (Kd.R_elder' (by (with_reducible repeat (first | apply Kd.R_alloc | apply Kd.R_drewN | apply Kd.R_drew)); exact HO138.out) (Kd.R_base ho0) hb); have n1_ := Aside0.mk (Kd.R_elder' (by (with_reducible repeat (first | apply Kd.R_alloc | apply Kd.R_drewN | apply Kd.R_drew)); exact HO141.out) (Kd.R_base ho0) hb); have n2_ := Aside0.mk (Kd.R_lower (Kd.R_new' (Kd.R_new' ho0 (Kd.R_lt (by (with_reducible repeat (first | apply Kd.R_alloc | apply Kd.R_drewN | apply Kd.R_drew)); exact HO138.out))) (Kd.R_lt (by (with_reducible repeat (first | apply Kd.R_alloc | apply Kd.R_drewN | apply Kd.R_drew)); exact HO141.out))) (below_size (by repeat (first | (with_reducible first | exact HB.out | apply below_alloc | apply pw_below_drewN | apply below_drew1) | exact HB.out)))); have n3_ := Aside0.mk (below_step (by repeat (first | (with_reducible first | exact HB.out | apply below_alloc | apply pw_below_drewN | apply below_drew1) | exact HB.out)) hb); clear HO138; clear HO141; clear HB; have HO138 := n0_; have HO141 := n1_; have HO144 := n2_; have HB := n3_; clear n0_ n1_ n2_ n3_; (try clear hb); (try clear hb2); (try clear hk); (try clear hi); (try clear ho0); obtain ⟨Ao26, co26, eo26⟩ := Kd.R_slice HO138.out; subst eo26; obtain ⟨Ao27, co27, eo27⟩ := Kd.R_slice HO141.out; subst eo27; obtain ⟨Ao28, co28, eo28⟩ := Kd.R_slice HO144.out; subst eo28) | ((with_reducible refine gate_callee (f := 9) rfl ?_); refine goesL_ (some 38) rfl rfl Try.func9 (by kernel_rfl) rfl #[.slice Ao26 t136.length co26, .slice Ao27 t139.length co27, .slice Ao28 t142.length co28] rfl (by (try simp only [List.map_toArray, List.map_cons, List.map_nil]); first | done | rfl | (simp only [List.length_drop, List.length_take]; rfl)) ?_; (with_reducible refine (quant_Short.calls kj4 _ _ t136 _ _ t139 _ _ t142 t145 t146 _ ?side1 ?side2 ?side3 ?side4 ?side5 ?side6 A21.out).mono ?_); (case side1 => repeat (first | exact (Kd.R_reads' HO138.out).2.2 | (with_reducible refine Kd.C_alloc ?_ _) | (with_reducible refine Kd.C_drewN ?_ _) | (with_reducible refine Kd.C_drew ?_))); (case side2 => exact (Kd.R_reads' HO138.out).2.1); (case side3 => repeat (first | exact (Kd.R_reads' HO141.out).2.2 | (with_reducible refine Kd.C_alloc ?_ _) | (with_reducible refine Kd.C_drewN ?_ _) | (with_reducible refine Kd.C_drew ?_))); (case side4 => exact (Kd.R_reads' HO141.out).2.1); (case side5 => repeat (first | exact (Kd.R_reads' HO144.out).2.2 | (with_reducible refine Kd.C_alloc ?_ _) | (with_reducible refine Kd.C_drewN ?_ _) | (with_reducible refine Kd.C_drew ?_))); (case side6 => exact (Kd.R_reads' HO144.out).2.1); rintro e w29 ⟨rfl, hb⟩; refine ⟨_, rfl, ?_⟩; have n0_ := Aside0.mk (Kd.R_below (by (with_reducible repeat (first | apply Kd.R_alloc | apply Kd.R_drewN | apply Kd.R_drew)); exact HO138.out) hb); have n1_ := Aside0.mk (Kd.R_below (by (with_reducible repeat (first | apply Kd.R_alloc | apply Kd.R_drewN | apply Kd.R_drew)); exact HO141.out) hb); have n2_ := Aside0.mk (Kd.R_below (by (with_reducible repeat (first | apply Kd.R_alloc | apply Kd.R_drewN | apply Kd.R_drew)); exact HO144.out) hb); have n3_ := Aside0.mk (below_step (by repeat (first | (with_reducible first | exact HB.out | apply below_alloc | apply pw_below_drewN | apply below_drew1) | exact HB.out)) hb); clear HO138; clear HO141; clear HO144; clear HB; have HO138 := n0_; have HO141 := n1_; have HO144 := n2_; have HB := n3_; clear n0_ n1_ n2_ n3_; (try clear hb); (try clear hb2); (try clear hk); (try clear hi)))
        (try simp only [Act.put, List.setIfInBounds_toArray, List.set_cons_zero, List.set_cons_succ])
        go_cut [56] (fun v56 wc => ∃ (kq : Nat) (x56_21 : Bool), v56 = .bool x56_21 ∧ Aside0 (berthlaw02_QuantRoom.j1 kq l0 l1 l2 t145 t146 x56_21 = some r) ∧ Aside0 (kq ≤ kj4) ∧ Aside0 (Below w.heap.size w wc))
        case first =>
          have H := HC22.out
          clear HC22
          replace H := Option.bind_eq_some_iff.mp H
          obtain ⟨t147, A300, H⟩ := H
          replace H : ((quant_Check.f kj4 t147).bind fun t150 => (if t150 = 0 then ((berthlaw02_Copied.f l1).bind fun t151 => ((quant_Check.f kj4 t151).bind fun t154 => (if t154 = 0 then ((berthlaw02_Copied.f l2).bind fun t155 => ((quant_Check.f kj4 t155).bind fun t158 => (berthlaw02_QuantRoom.j1 kj4 l0 l1 l2 t145 t146 (t158 != 0)))) else (berthlaw02_QuantRoom.j1 kj4 l0 l1 l2 t145 t146 true)))) else (berthlaw02_QuantRoom.j1 kj4 l0 l1 l2 t145 t146 true))) = some r := H
          have A30 := Aside0.mk A300
          clear A300
          replace H := Option.bind_eq_some_iff.mp H
          obtain ⟨t150, A310, H⟩ := H
          replace H : (if t150 = 0 then ((berthlaw02_Copied.f l1).bind fun t151 => ((quant_Check.f kj4 t151).bind fun t154 => (if t154 = 0 then ((berthlaw02_Copied.f l2).bind fun t155 => ((quant_Check.f kj4 t155).bind fun t158 => (berthlaw02_QuantRoom.j1 kj4 l0 l1 l2 t145 t146 (t158 != 0)))) else (berthlaw02_QuantRoom.j1 kj4 l0 l1 l2 t145 t146 true)))) else (berthlaw02_QuantRoom.j1 kj4 l0 l1 l2 t145 t146 true)) = some r := H
          have A31 := Aside0.mk A310
          clear A310
          by_cases c32 : t150 = 0
          · rw [if_pos c32] at H
            have c32b0 : (t150 == 0) = true := beq_iff_eq.mpr c32
            have c32b1 : (t150 != 0) = false := bne_eq_false_iff_eq.mpr c32
            clear c32
            (first | rw [c32b0] | (simp only [i64_w, i32_w]; rw [c32b0]) | skip)
            replace H := Option.bind_eq_some_iff.mp H
            obtain ⟨t151, A330, H⟩ := H
            replace H : ((quant_Check.f kj4 t151).bind fun t154 => (if t154 = 0 then ((berthlaw02_Copied.f l2).bind fun t155 => ((quant_Check.f kj4 t155).bind fun t158 => (berthlaw02_QuantRoom.j1 kj4 l0 l1 l2 t145 t146 (t158 != 0)))) else (berthlaw02_QuantRoom.j1 kj4 l0 l1 l2 t145 t146 true))) = some r := H
            have A33 := Aside0.mk A330
            clear A330
            replace H := Option.bind_eq_some_iff.mp H
            obtain ⟨t154, A340, H⟩ := H
            replace H : (if t154 = 0 then ((berthlaw02_Copied.f l2).bind fun t155 => ((quant_Check.f kj4 t155).bind fun t158 => (berthlaw02_QuantRoom.j1 kj4 l0 l1 l2 t145 t146 (t158 != 0)))) else (berthlaw02_QuantRoom.j1 kj4 l0 l1 l2 t145 t146 true)) = some r := H
            have A34 := Aside0.mk A340
            clear A340
            by_cases c35 : t154 = 0
            · rw [if_pos c35] at H
              have c35b0 : (t154 == 0) = true := beq_iff_eq.mpr c35
              have c35b1 : (t154 != 0) = false := bne_eq_false_iff_eq.mpr c35
              clear c35
              replace H := Option.bind_eq_some_iff.mp H
              obtain ⟨t155, A360, H⟩ := H
              replace H : ((quant_Check.f kj4 t155).bind fun t158 => (berthlaw02_QuantRoom.j1 kj4 l0 l1 l2 t145 t146 (t158 != 0))) = some r := H
              have A36 := Aside0.mk A360
              clear A360
              replace H := Option.bind_eq_some_iff.mp H
              obtain ⟨t158, A370, H⟩ := H
              replace H : (berthlaw02_QuantRoom.j1 kj4 l0 l1 l2 t145 t146 (t158 != 0)) = some r := H
              have A37 := Aside0.mk A370
              clear A370
              have H' := Aside0.mk H
              clear H
              go_wp2_with (first | ((with_reducible refine gate_callee (f := 10) rfl ?_); refine goesL_ (some 42) rfl rfl Try.func10 (by kernel_rfl) rfl #[.slice A0 l0.length c0] rfl (by (try simp only [List.map_toArray, List.map_cons, List.map_nil]); first | done | rfl | (simp only [List.length_drop, List.length_take]; rfl)) ?_; (with_reducible refine (berthlaw02_Copied.calls _ _ l0 t147 _ ?side1 ?side2 A30.out).mono ?_); (case side1 => repeat (first | exact (Kd.C_below HR0.out HB.out) | (with_reducible refine Kd.C_alloc ?_ _) | (with_reducible refine Kd.C_drewN ?_ _) | (with_reducible refine Kd.C_drew ?_))); (case side2 => exact HC0.out); rintro e w38 ⟨v148, rfl, ho0, hb⟩; refine ⟨_, rfl, ?_⟩; have n0_ := Aside0.mk (Kd.R_elder' (by (with_reducible repeat (first | apply Kd.R_alloc | apply Kd.R_drewN | apply Kd.R_drew)); exact HO138.out) (Kd.R_base ho0) hb); have n1_ := Aside0.mk (Kd.R_elder' (by (with_reducible repeat (first | apply Kd.R_alloc | apply Kd.R_drewN | apply Kd.R_drew)); exact HO141.out) (Kd.R_base ho0) hb); have n2_ := Aside0.mk (Kd.R_elder' (by (with_reducible repeat (first | apply Kd.R_alloc | apply Kd.R_drewN | apply Kd.R_drew)); exact HO144.out) (Kd.R_base ho0) hb); have n3_ := Aside0.mk (Kd.R_lower (Kd.R_new' (Kd.R_new' (Kd.R_new' ho0 (Kd.R_lt (by (with_reducible repeat (first | apply Kd.R_alloc | apply Kd.R_drewN | apply Kd.R_drew)); exact HO138.out))) (Kd.R_lt (by (with_reducible repeat (first | apply Kd.R_alloc | apply Kd.R_drewN | apply Kd.R_drew)); exact HO141.out))) (Kd.R_lt (by (with_reducible repeat (first | apply Kd.R_alloc | apply Kd.R_drewN | apply Kd.R_drew)); exact HO144.out))) (below_size (by repeat (first | (with_reducible first | exact HB.out | apply below_alloc | apply pw_below_drewN | apply below_drew1) | exact HB.out)))); have n4_ := Aside0.mk (below_step (by repeat (first | (with_reducible first | exact HB.out | apply below_alloc | apply pw_below_drewN | apply below_drew1) | exact HB.out)) hb); clear HO138; clear HO141; clear HO144; clear HB; have HO138 := n0_; have HO141 := n1_; have HO144 := n2_; have HO149 := n3_; have HB := n4_; clear n0_ n1_ n2_ n3_ n4_; (try clear hb); (try clear hb2); (try clear hk); (try clear hi); (try clear ho0); obtain ⟨Ao39, co39, eo39⟩ := Kd.R_slice HO149.out; subst eo39) | ((with_reducible refine gate_callee (f := 11) rfl ?_); refine goesL_ (some 43) rfl rfl Try.func11 (by kernel_rfl) rfl #[.slice Ao39 t147.length co39] rfl (by (try simp only [List.map_toArray, List.map_cons, List.map_nil]); first | done | rfl | (simp only [List.length_drop, List.length_take]; rfl)) ?_; (with_reducible refine (quant_Check.calls kj4 _ _ t147 t150 _ ?side1 ?side2 A31.out).mono ?_); (case side1 => repeat (first | exact (Kd.R_reads' HO149.out).2.2 | (with_reducible refine Kd.C_alloc ?_ _) | (with_reducible refine Kd.C_drewN ?_ _) | (with_reducible refine Kd.C_drew ?_))); (case side2 => exact (Kd.R_reads' HO149.out).2.1); rintro e w40 ⟨rfl, hb⟩; refine ⟨_, rfl, ?_⟩; have n0_ := Aside0.mk (Kd.R_below (by (with_reducible repeat (first | apply Kd.R_alloc | apply Kd.R_drewN | apply Kd.R_drew)); exact HO138.out) hb); have n1_ := Aside0.mk (Kd.R_below (by (with_reducible repeat (first | apply Kd.R_alloc | apply Kd.R_drewN | apply Kd.R_drew)); exact HO141.out) hb); have n2_ := Aside0.mk (Kd.R_below (by (with_reducible repeat (first | apply Kd.R_alloc | apply Kd.R_drewN | apply Kd.R_drew)); exact HO144.out) hb); have n3_ := Aside0.mk (Kd.R_below (by (with_reducible repeat (first | apply Kd.R_alloc | apply Kd.R_drewN | apply Kd.R_drew)); exact HO149.out) hb); have n4_ := Aside0.mk (below_step (by repeat (first | (with_reducible first | exact HB.out | apply below_alloc | apply pw_below_drewN | apply below_drew1) | exact HB.out)) hb); clear HO138; clear HO141; clear HO144; clear HO149; clear HB; have HO138 := n0_; have HO141 := n1_; have HO144 := n2_; have HO149 := n3_; have HB := n4_; clear n0_ n1_ n2_ n3_ n4_; (try clear hb); (try clear hb2); (try clear hk); (try clear hi)) | (go_at_call 10; (with_reducible refine (berthlaw02_Copied.calls _ _ l1 t151 _ ?side1 ?side2 A33.out).mono ?_); (case side1 => repeat (first | exact (Kd.C_below HR1.out HB.out) | (with_reducible refine Kd.C_alloc ?_ _) | (with_reducible refine Kd.C_drewN ?_ _) | (with_reducible refine Kd.C_drew ?_))); (case side2 => exact HC1.out); rintro e w41 ⟨v152, rfl, ho0, hb⟩; have n0_ := Aside0.mk (Kd.R_elder' (by (with_reducible repeat (first | apply Kd.R_alloc | apply Kd.R_drewN | apply Kd.R_drew)); exact HO138.out) (Kd.R_base ho0) hb); have n1_ := Aside0.mk (Kd.R_elder' (by (with_reducible repeat (first | apply Kd.R_alloc | apply Kd.R_drewN | apply Kd.R_drew)); exact HO141.out) (Kd.R_base ho0) hb); have n2_ := Aside0.mk (Kd.R_elder' (by (with_reducible repeat (first | apply Kd.R_alloc | apply Kd.R_drewN | apply Kd.R_drew)); exact HO144.out) (Kd.R_base ho0) hb); have n3_ := Aside0.mk (Kd.R_elder' (by (with_reducible repeat (first | apply Kd.R_alloc | apply Kd.R_drewN | apply Kd.R_drew)); exact HO149.out) (Kd.R_base ho0) hb); have n4_ := Aside0.mk (Kd.R_lower (Kd.R_new' (Kd.R_new' (Kd.R_new' (Kd.R_new' ho0 (Kd.R_lt (by (with_reducible repeat (first | apply Kd.R_alloc | apply Kd.R_drewN | apply Kd.R_drew)); exact HO138.out))) (Kd.R_lt (by (with_reducible repeat (first | apply Kd.R_alloc | apply Kd.R_drewN | apply Kd.R_drew)); exact HO141.out))) (Kd.R_lt (by (with_reducible repeat (first | apply Kd.R_alloc | apply Kd.R_drewN | apply Kd.R_drew)); exact HO144.out))) (Kd.R_lt (by (with_reducible repeat (first | apply Kd.R_alloc | apply Kd.R_drewN | apply Kd.R_drew)); exact HO149.out))) (below_size (by repeat (first | (with_reducible first | exact HB.out | apply below_alloc | apply pw_below_drewN | apply below_drew1) | exact HB.out)))); have n5_ := Aside0.mk (below_step (by repeat (first | (with_reducible first | exact HB.out | apply below_alloc | apply pw_below_drewN | apply below_drew1) | exact HB.out)) hb); clear HO138; clear HO141; clear HO144; clear HO149; clear HB; have HO138 := n0_; have HO141 := n1_; have HO144 := n2_; have HO149 := n3_; have HO153 := n4_; have HB := n5_; clear n0_ n1_ n2_ n3_ n4_ n5_; (try clear hb); (try clear hb2); (try clear hk); (try clear hi); (try clear ho0); obtain ⟨Ao42, co42, eo42⟩ := Kd.R_slice HO153.out; subst eo42) | (go_at_call 11; (with_reducible refine (quant_Check.calls kj4 _ _ t151 t154 _ ?side1 ?side2 A34.out).mono ?_); (case side1 => repeat (first | exact (Kd.R_reads' HO153.out).2.2 | (with_reducible refine Kd.C_alloc ?_ _) | (with_reducible refine Kd.C_drewN ?_ _) | (with_reducible refine Kd.C_drew ?_))); (case side2 => exact (Kd.R_reads' HO153.out).2.1); rintro e w43 ⟨rfl, hb⟩; have n0_ := Aside0.mk (Kd.R_below (by (with_reducible repeat (first | apply Kd.R_alloc | apply Kd.R_drewN | apply Kd.R_drew)); exact HO138.out) hb); have n1_ := Aside0.mk (Kd.R_below (by (with_reducible repeat (first | apply Kd.R_alloc | apply Kd.R_drewN | apply Kd.R_drew)); exact HO141.out) hb); have n2_ := Aside0.mk (Kd.R_below (by (with_reducible repeat (first | apply Kd.R_alloc | apply Kd.R_drewN | apply Kd.R_drew)); exact HO144.out) hb); have n3_ := Aside0.mk (Kd.R_below (by (with_reducible repeat (first | apply Kd.R_alloc | apply Kd.R_drewN | apply Kd.R_drew)); exact HO149.out) hb); have n4_ := Aside0.mk (Kd.R_below (by (with_reducible repeat (first | apply Kd.R_alloc | apply Kd.R_drewN | apply Kd.R_drew)); exact HO153.out) hb); have n5_ := Aside0.mk (below_step (by repeat (first | (with_reducible first | exact HB.out | apply below_alloc | apply pw_below_drewN | apply below_drew1) | exact HB.out)) hb); clear HO138; clear HO141; clear HO144; clear HO149; clear HO153; clear HB; have HO138 := n0_; have HO141 := n1_; have HO144 := n2_; have HO149 := n3_; have HO153 := n4_; have HB := n5_; clear n0_ n1_ n2_ n3_ n4_ n5_; (try clear hb); (try clear hb2); (try clear hk); (try clear hi)) | (go_at_call 10; (with_reducible refine (berthlaw02_Copied.calls _ _ l2 t155 _ ?side1 ?side2 A36.out).mono ?_); (case side1 => repeat (first | exact (Kd.C_below HR2.out HB.out) | (with_reducible refine Kd.C_alloc ?_ _) | (with_reducible refine Kd.C_drewN ?_ _) | (with_reducible refine Kd.C_drew ?_))); (case side2 => exact HC2.out); rintro e w44 ⟨v156, rfl, ho0, hb⟩; have n0_ := Aside0.mk (Kd.R_elder' (by (with_reducible repeat (first | apply Kd.R_alloc | apply Kd.R_drewN | apply Kd.R_drew)); exact HO138.out) (Kd.R_base ho0) hb); have n1_ := Aside0.mk (Kd.R_elder' (by (with_reducible repeat (first | apply Kd.R_alloc | apply Kd.R_drewN | apply Kd.R_drew)); exact HO141.out) (Kd.R_base ho0) hb); have n2_ := Aside0.mk (Kd.R_elder' (by (with_reducible repeat (first | apply Kd.R_alloc | apply Kd.R_drewN | apply Kd.R_drew)); exact HO144.out) (Kd.R_base ho0) hb); have n3_ := Aside0.mk (Kd.R_elder' (by (with_reducible repeat (first | apply Kd.R_alloc | apply Kd.R_drewN | apply Kd.R_drew)); exact HO149.out) (Kd.R_base ho0) hb); have n4_ := Aside0.mk (Kd.R_elder' (by (with_reducible repeat (first | apply Kd.R_alloc | apply Kd.R_drewN | apply Kd.R_drew)); exact HO153.out) (Kd.R_base ho0) hb); have n5_ := Aside0.mk (Kd.R_lower (Kd.R_new' (Kd.R_new' (Kd.R_new' (Kd.R_new' (Kd.R_new' ho0 (Kd.R_lt (by (with_reducible repeat (first | apply Kd.R_alloc | apply Kd.R_drewN | apply Kd.R_drew)); exact HO138.out))) (Kd.R_lt (by (with_reducible repeat (first | apply Kd.R_alloc | apply Kd.R_drewN | apply Kd.R_drew)); exact HO141.out))) (Kd.R_lt (by (with_reducible repeat (first | apply Kd.R_alloc | apply Kd.R_drewN | apply Kd.R_drew)); exact HO144.out))) (Kd.R_lt (by (with_reducible repeat (first | apply Kd.R_alloc | apply Kd.R_drewN | apply Kd.R_drew)); exact HO149.out))) (Kd.R_lt (by (with_reducible repeat (first | apply Kd.R_alloc | apply Kd.R_drewN | apply Kd.R_drew)); exact HO153.out))) (below_size (by repeat (first | (with_reducible first | exact HB.out | apply below_alloc | apply pw_below_drewN | apply below_drew1) | exact HB.out)))); have n6_ := Aside0.mk (below_step (by repeat (first | (with_reducible first | exact HB.out | apply below_alloc | apply pw_below_drewN | apply below_drew1) | exact HB.out)) hb); clear HO138; clear HO141; clear HO144; clear HO149; clear HO153; clear HB; have HO138 := n0_; have HO141 := n1_; have HO144 := n2_; have HO149 := n3_; have HO153 := n4_; have HO157 := n5_; have HB := n6_; clear n0_ n1_ n2_ n3_ n4_ n5_ n6_; (try clear hb); (try clear hb2); (try clear hk); (try clear hi); (try clear ho0); obtain ⟨Ao45, co45, eo45⟩ := Kd.R_slice HO157.out; subst eo45) | (go_at_call 11; (with_reducible refine (quant_Check.calls kj4 _ _ t155 t158 _ ?side1 ?side2 A37.out).mono ?_); (case side1 => repeat (first | exact (Kd.R_reads' HO157.out).2.2 | (with_reducible refine Kd.C_alloc ?_ _) | (with_reducible refine Kd.C_drewN ?_ _) | (with_reducible refine Kd.C_drew ?_))); (case side2 => exact (Kd.R_reads' HO157.out).2.1); rintro e w46 ⟨rfl, hb⟩; have n0_ := Aside0.mk (Kd.R_below (by (with_reducible repeat (first | apply Kd.R_alloc | apply Kd.R_drewN | apply Kd.R_drew)); exact HO138.out) hb); have n1_ := Aside0.mk (Kd.R_below (by (with_reducible repeat (first | apply Kd.R_alloc | apply Kd.R_drewN | apply Kd.R_drew)); exact HO141.out) hb); have n2_ := Aside0.mk (Kd.R_below (by (with_reducible repeat (first | apply Kd.R_alloc | apply Kd.R_drewN | apply Kd.R_drew)); exact HO144.out) hb); have n3_ := Aside0.mk (Kd.R_below (by (with_reducible repeat (first | apply Kd.R_alloc | apply Kd.R_drewN | apply Kd.R_drew)); exact HO149.out) hb); have n4_ := Aside0.mk (Kd.R_below (by (with_reducible repeat (first | apply Kd.R_alloc | apply Kd.R_drewN | apply Kd.R_drew)); exact HO153.out) hb); have n5_ := Aside0.mk (Kd.R_below (by (with_reducible repeat (first | apply Kd.R_alloc | apply Kd.R_drewN | apply Kd.R_drew)); exact HO157.out) hb); have n6_ := Aside0.mk (below_step (by repeat (first | (with_reducible first | exact HB.out | apply below_alloc | apply pw_below_drewN | apply below_drew1) | exact HB.out)) hb); clear HO138; clear HO141; clear HO144; clear HO149; clear HO153; clear HO157; clear HB; have HO138 := n0_; have HO141 := n1_; have HO144 := n2_; have HO149 := n3_; have HO153 := n4_; have HO157 := n5_; have HB := n6_; clear n0_ n1_ n2_ n3_ n4_ n5_ n6_; (try clear hb); (try clear hb2); (try clear hk); (try clear hi)))
              go_meet
              case rel => exact ⟨_, ((t158 != 0)), (by first | rfl | (simp; done) | (simp [*]; done) | (simp only [i64_w]; done) | (simp [i64_w, Int.tdiv_eq_ediv_of_nonneg]; done)), H', ⟨by have := HJ4.out; first | omega | exact Nat.le_refl _⟩, ⟨by repeat (first | (with_reducible first | exact HB.out | apply below_alloc | apply pw_below_drewN | apply below_drew1) | exact HB.out)⟩⟩
            · rw [if_neg c35] at H
              have c35b0 : (t154 == 0) = false := beq_eq_false_iff_ne.mpr c35
              have c35b1 : (t154 != 0) = true := bne_iff_ne.mpr c35
              have H' := Aside0.mk H
              clear H
              go_wp2_with (first | ((with_reducible refine gate_callee (f := 10) rfl ?_); refine goesL_ (some 42) rfl rfl Try.func10 (by kernel_rfl) rfl #[.slice A0 l0.length c0] rfl (by (try simp only [List.map_toArray, List.map_cons, List.map_nil]); first | done | rfl | (simp only [List.length_drop, List.length_take]; rfl)) ?_; (with_reducible refine (berthlaw02_Copied.calls _ _ l0 t147 _ ?side1 ?side2 A30.out).mono ?_); (case side1 => repeat (first | exact (Kd.C_below HR0.out HB.out) | (with_reducible refine Kd.C_alloc ?_ _) | (with_reducible refine Kd.C_drewN ?_ _) | (with_reducible refine Kd.C_drew ?_))); (case side2 => exact HC0.out); rintro e w47 ⟨v148, rfl, ho0, hb⟩; refine ⟨_, rfl, ?_⟩; have n0_ := Aside0.mk (Kd.R_elder' (by (with_reducible repeat (first | apply Kd.R_alloc | apply Kd.R_drewN | apply Kd.R_drew)); exact HO138.out) (Kd.R_base ho0) hb); have n1_ := Aside0.mk (Kd.R_elder' (by (with_reducible repeat (first | apply Kd.R_alloc | apply Kd.R_drewN | apply Kd.R_drew)); exact HO141.out) (Kd.R_base ho0) hb); have n2_ := Aside0.mk (Kd.R_elder' (by (with_reducible repeat (first | apply Kd.R_alloc | apply Kd.R_drewN | apply Kd.R_drew)); exact HO144.out) (Kd.R_base ho0) hb); have n3_ := Aside0.mk (Kd.R_lower (Kd.R_new' (Kd.R_new' (Kd.R_new' ho0 (Kd.R_lt (by (with_reducible repeat (first | apply Kd.R_alloc | apply Kd.R_drewN | apply Kd.R_drew)); exact HO138.out))) (Kd.R_lt (by (with_reducible repeat (first | apply Kd.R_alloc | apply Kd.R_drewN | apply Kd.R_drew)); exact HO141.out))) (Kd.R_lt (by (with_reducible repeat (first | apply Kd.R_alloc | apply Kd.R_drewN | apply Kd.R_drew)); exact HO144.out))) (below_size (by repeat (first | (with_reducible first | exact HB.out | apply below_alloc | apply pw_below_drewN | apply below_drew1) | exact HB.out)))); have n4_ := Aside0.mk (below_step (by repeat (first | (with_reducible first | exact HB.out | apply below_alloc | apply pw_below_drewN | apply below_drew1) | exact HB.out)) hb); clear HO138; clear HO141; clear HO144; clear HB; have HO138 := n0_; have HO141 := n1_; have HO144 := n2_; have HO149 := n3_; have HB := n4_; clear n0_ n1_ n2_ n3_ n4_; (try clear hb); (try clear hb2); (try clear hk); (try clear hi); (try clear ho0); obtain ⟨Ao48, co48, eo48⟩ := Kd.R_slice HO149.out; subst eo48) | ((with_reducible refine gate_callee (f := 11) rfl ?_); refine goesL_ (some 43) rfl rfl Try.func11 (by kernel_rfl) rfl #[.slice Ao48 t147.length co48] rfl (by (try simp only [List.map_toArray, List.map_cons, List.map_nil]); first | done | rfl | (simp only [List.length_drop, List.length_take]; rfl)) ?_; (with_reducible refine (quant_Check.calls kj4 _ _ t147 t150 _ ?side1 ?side2 A31.out).mono ?_); (case side1 => repeat (first | exact (Kd.R_reads' HO149.out).2.2 | (with_reducible refine Kd.C_alloc ?_ _) | (with_reducible refine Kd.C_drewN ?_ _) | (with_reducible refine Kd.C_drew ?_))); (case side2 => exact (Kd.R_reads' HO149.out).2.1); rintro e w49 ⟨rfl, hb⟩; refine ⟨_, rfl, ?_⟩; have n0_ := Aside0.mk (Kd.R_below (by (with_reducible repeat (first | apply Kd.R_alloc | apply Kd.R_drewN | apply Kd.R_drew)); exact HO138.out) hb); have n1_ := Aside0.mk (Kd.R_below (by (with_reducible repeat (first | apply Kd.R_alloc | apply Kd.R_drewN | apply Kd.R_drew)); exact HO141.out) hb); have n2_ := Aside0.mk (Kd.R_below (by (with_reducible repeat (first | apply Kd.R_alloc | apply Kd.R_drewN | apply Kd.R_drew)); exact HO144.out) hb); have n3_ := Aside0.mk (Kd.R_below (by (with_reducible repeat (first | apply Kd.R_alloc | apply Kd.R_drewN | apply Kd.R_drew)); exact HO149.out) hb); have n4_ := Aside0.mk (below_step (by repeat (first | (with_reducible first | exact HB.out | apply below_alloc | apply pw_below_drewN | apply below_drew1) | exact HB.out)) hb); clear HO138; clear HO141; clear HO144; clear HO149; clear HB; have HO138 := n0_; have HO141 := n1_; have HO144 := n2_; have HO149 := n3_; have HB := n4_; clear n0_ n1_ n2_ n3_ n4_; (try clear hb); (try clear hb2); (try clear hk); (try clear hi)) | (go_at_call 10; (with_reducible refine (berthlaw02_Copied.calls _ _ l1 t151 _ ?side1 ?side2 A33.out).mono ?_); (case side1 => repeat (first | exact (Kd.C_below HR1.out HB.out) | (with_reducible refine Kd.C_alloc ?_ _) | (with_reducible refine Kd.C_drewN ?_ _) | (with_reducible refine Kd.C_drew ?_))); (case side2 => exact HC1.out); rintro e w50 ⟨v152, rfl, ho0, hb⟩; have n0_ := Aside0.mk (Kd.R_elder' (by (with_reducible repeat (first | apply Kd.R_alloc | apply Kd.R_drewN | apply Kd.R_drew)); exact HO138.out) (Kd.R_base ho0) hb); have n1_ := Aside0.mk (Kd.R_elder' (by (with_reducible repeat (first | apply Kd.R_alloc | apply Kd.R_drewN | apply Kd.R_drew)); exact HO141.out) (Kd.R_base ho0) hb); have n2_ := Aside0.mk (Kd.R_elder' (by (with_reducible repeat (first | apply Kd.R_alloc | apply Kd.R_drewN | apply Kd.R_drew)); exact HO144.out) (Kd.R_base ho0) hb); have n3_ := Aside0.mk (Kd.R_elder' (by (with_reducible repeat (first | apply Kd.R_alloc | apply Kd.R_drewN | apply Kd.R_drew)); exact HO149.out) (Kd.R_base ho0) hb); have n4_ := Aside0.mk (Kd.R_lower (Kd.R_new' (Kd.R_new' (Kd.R_new' (Kd.R_new' ho0 (Kd.R_lt (by (with_reducible repeat (first | apply Kd.R_alloc | apply Kd.R_drewN | apply Kd.R_drew)); exact HO138.out))) (Kd.R_lt (by (with_reducible repeat (first | apply Kd.R_alloc | apply Kd.R_drewN | apply Kd.R_drew)); exact HO141.out))) (Kd.R_lt (by (with_reducible repeat (first | apply Kd.R_alloc | apply Kd.R_drewN | apply Kd.R_drew)); exact HO144.out))) (Kd.R_lt (by (with_reducible repeat (first | apply Kd.R_alloc | apply Kd.R_drewN | apply Kd.R_drew)); exact HO149.out))) (below_size (by repeat (first | (with_reducible first | exact HB.out | apply below_alloc | apply pw_below_drewN | apply below_drew1) | exact HB.out)))); have n5_ := Aside0.mk (below_step (by repeat (first | (with_reducible first | exact HB.out | apply below_alloc | apply pw_below_drewN | apply below_drew1) | exact HB.out)) hb); clear HO138; clear HO141; clear HO144; clear HO149; clear HB; have HO138 := n0_; have HO141 := n1_; have HO144 := n2_; have HO149 := n3_; have HO153 := n4_; have HB := n5_; clear n0_ n1_ n2_ n3_ n4_ n5_; (try clear hb); (try clear hb2); (try clear hk); (try clear hi); (try clear ho0); obtain ⟨Ao51, co51, eo51⟩ := Kd.R_slice HO153.out; subst eo51) | (go_at_call 11; (with_reducible refine (quant_Check.calls kj4 _ _ t151 t154 _ ?side1 ?side2 A34.out).mono ?_); (case side1 => repeat (first | exact (Kd.R_reads' HO153.out).2.2 | (with_reducible refine Kd.C_alloc ?_ _) | (with_reducible refine Kd.C_drewN ?_ _) | (with_reducible refine Kd.C_drew ?_))); (case side2 => exact (Kd.R_reads' HO153.out).2.1); rintro e w52 ⟨rfl, hb⟩; have n0_ := Aside0.mk (Kd.R_below (by (with_reducible repeat (first | apply Kd.R_alloc | apply Kd.R_drewN | apply Kd.R_drew)); exact HO138.out) hb); have n1_ := Aside0.mk (Kd.R_below (by (with_reducible repeat (first | apply Kd.R_alloc | apply Kd.R_drewN | apply Kd.R_drew)); exact HO141.out) hb); have n2_ := Aside0.mk (Kd.R_below (by (with_reducible repeat (first | apply Kd.R_alloc | apply Kd.R_drewN | apply Kd.R_drew)); exact HO144.out) hb); have n3_ := Aside0.mk (Kd.R_below (by (with_reducible repeat (first | apply Kd.R_alloc | apply Kd.R_drewN | apply Kd.R_drew)); exact HO149.out) hb); have n4_ := Aside0.mk (Kd.R_below (by (with_reducible repeat (first | apply Kd.R_alloc | apply Kd.R_drewN | apply Kd.R_drew)); exact HO153.out) hb); have n5_ := Aside0.mk (below_step (by repeat (first | (with_reducible first | exact HB.out | apply below_alloc | apply pw_below_drewN | apply below_drew1) | exact HB.out)) hb); clear HO138; clear HO141; clear HO144; clear HO149; clear HO153; clear HB; have HO138 := n0_; have HO141 := n1_; have HO144 := n2_; have HO149 := n3_; have HO153 := n4_; have HB := n5_; clear n0_ n1_ n2_ n3_ n4_ n5_; (try clear hb); (try clear hb2); (try clear hk); (try clear hi)))
              go_meet
              case rel => exact ⟨_, (true), (by first | rfl | (simp; done) | (simp [*]; done) | (simp only [i64_w]; done) | (simp [i64_w, Int.tdiv_eq_ediv_of_nonneg]; done)), H', ⟨by have := HJ4.out; first | omega | exact Nat.le_refl _⟩, ⟨by repeat (first | (with_reducible first | exact HB.out | apply below_alloc | apply pw_below_drewN | apply below_drew1) | exact HB.out)⟩⟩
          · rw [if_neg c32] at H
            have c32b0 : (t150 == 0) = false := beq_eq_false_iff_ne.mpr c32
            have c32b1 : (t150 != 0) = true := bne_iff_ne.mpr c32
            (first | rw [c32b0] | (simp only [i64_w, i32_w]; rw [c32b0]) | skip)
            have H' := Aside0.mk H
            clear H
            go_wp2_with (first | ((with_reducible refine gate_callee (f := 10) rfl ?_); refine goesL_ (some 42) rfl rfl Try.func10 (by kernel_rfl) rfl #[.slice A0 l0.length c0] rfl (by (try simp only [List.map_toArray, List.map_cons, List.map_nil]); first | done | rfl | (simp only [List.length_drop, List.length_take]; rfl)) ?_; (with_reducible refine (berthlaw02_Copied.calls _ _ l0 t147 _ ?side1 ?side2 A30.out).mono ?_); (case side1 => repeat (first | exact (Kd.C_below HR0.out HB.out) | (with_reducible refine Kd.C_alloc ?_ _) | (with_reducible refine Kd.C_drewN ?_ _) | (with_reducible refine Kd.C_drew ?_))); (case side2 => exact HC0.out); rintro e w53 ⟨v148, rfl, ho0, hb⟩; refine ⟨_, rfl, ?_⟩; have n0_ := Aside0.mk (Kd.R_elder' (by (with_reducible repeat (first | apply Kd.R_alloc | apply Kd.R_drewN | apply Kd.R_drew)); exact HO138.out) (Kd.R_base ho0) hb); have n1_ := Aside0.mk (Kd.R_elder' (by (with_reducible repeat (first | apply Kd.R_alloc | apply Kd.R_drewN | apply Kd.R_drew)); exact HO141.out) (Kd.R_base ho0) hb); have n2_ := Aside0.mk (Kd.R_elder' (by (with_reducible repeat (first | apply Kd.R_alloc | apply Kd.R_drewN | apply Kd.R_drew)); exact HO144.out) (Kd.R_base ho0) hb); have n3_ := Aside0.mk (Kd.R_lower (Kd.R_new' (Kd.R_new' (Kd.R_new' ho0 (Kd.R_lt (by (with_reducible repeat (first | apply Kd.R_alloc | apply Kd.R_drewN | apply Kd.R_drew)); exact HO138.out))) (Kd.R_lt (by (with_reducible repeat (first | apply Kd.R_alloc | apply Kd.R_drewN | apply Kd.R_drew)); exact HO141.out))) (Kd.R_lt (by (with_reducible repeat (first | apply Kd.R_alloc | apply Kd.R_drewN | apply Kd.R_drew)); exact HO144.out))) (below_size (by repeat (first | (with_reducible first | exact HB.out | apply below_alloc | apply pw_below_drewN | apply below_drew1) | exact HB.out)))); have n4_ := Aside0.mk (below_step (by repeat (first | (with_reducible first | exact HB.out | apply below_alloc | apply pw_below_drewN | apply below_drew1) | exact HB.out)) hb); clear HO138; clear HO141; clear HO144; clear HB; have HO138 := n0_; have HO141 := n1_; have HO144 := n2_; have HO149 := n3_; have HB := n4_; clear n0_ n1_ n2_ n3_ n4_; (try clear hb); (try clear hb2); (try clear hk); (try clear hi); (try clear ho0); obtain ⟨Ao54, co54, eo54⟩ := Kd.R_slice HO149.out; subst eo54) | ((with_reducible refine gate_callee (f := 11) rfl ?_); refine goesL_ (some 43) rfl rfl Try.func11 (by kernel_rfl) rfl #[.slice Ao54 t147.length co54] rfl (by (try simp only [List.map_toArray, List.map_cons, List.map_nil]); first | done | rfl | (simp only [List.length_drop, List.length_take]; rfl)) ?_; (with_reducible refine (quant_Check.calls kj4 _ _ t147 t150 _ ?side1 ?side2 A31.out).mono ?_); (case side1 => repeat (first | exact (Kd.R_reads' HO149.out).2.2 | (with_reducible refine Kd.C_alloc ?_ _) | (with_reducible refine Kd.C_drewN ?_ _) | (with_reducible refine Kd.C_drew ?_))); (case side2 => exact (Kd.R_reads' HO149.out).2.1); rintro e w55 ⟨rfl, hb⟩; refine ⟨_, rfl, ?_⟩; have n0_ := Aside0.mk (Kd.R_below (by (with_reducible repeat (first | apply Kd.R_alloc | apply Kd.R_drewN | apply Kd.R_drew)); exact HO138.out) hb); have n1_ := Aside0.mk (Kd.R_below (by (with_reducible repeat (first | apply Kd.R_alloc | apply Kd.R_drewN | apply Kd.R_drew)); exact HO141.out) hb); have n2_ := Aside0.mk (Kd.R_below (by (with_reducible repeat (first | apply Kd.R_alloc | apply Kd.R_drewN | apply Kd.R_drew)); exact HO144.out) hb); have n3_ := Aside0.mk (Kd.R_below (by (with_reducible repeat (first | apply Kd.R_alloc | apply Kd.R_drewN | apply Kd.R_drew)); exact HO149.out) hb); have n4_ := Aside0.mk (below_step (by repeat (first | (with_reducible first | exact HB.out | apply below_alloc | apply pw_below_drewN | apply below_drew1) | exact HB.out)) hb); clear HO138; clear HO141; clear HO144; clear HO149; clear HB; have HO138 := n0_; have HO141 := n1_; have HO144 := n2_; have HO149 := n3_; have HB := n4_; clear n0_ n1_ n2_ n3_ n4_; (try clear hb); (try clear hb2); (try clear hk); (try clear hi)))
            go_meet
            case rel => exact ⟨_, (true), (by first | rfl | (simp; done) | (simp [*]; done) | (simp only [i64_w]; done) | (simp [i64_w, Int.tdiv_eq_ediv_of_nonneg]; done)), H', ⟨by have := HJ4.out; first | omega | exact Nat.le_refl _⟩, ⟨by repeat (first | (with_reducible first | exact HB.out | apply below_alloc | apply pw_below_drewN | apply below_drew1) | exact HB.out)⟩⟩
        case rest =>
          clear HC22
          try clear c1
          try clear c2
          try clear p2
          try clear c3
          try clear c4
          try clear c9
          try clear c10
          try clear c11
          try clear c16
          try clear c16b0
          try clear c16b1
          try clear c17
          try clear c32
          try clear c32b0
          try clear c32b1
          try clear c35
          try clear c35b0
          try clear c35b1
          try clear p2
          obtain ⟨kq, x56_21, rfl, HA, HJ21, HB⟩ := hcut
          cases kq with
          | zero => exact absurd HA.out (by simp [berthlaw02_QuantRoom.j1])
          | succ kj21 =>
            have H := HA.out
            clear HA
            simp only [berthlaw02_QuantRoom.j1] at H
            by_cases c56 : x56_21 = true
            · subst c56
              have H1 : (if t146 = 0 then (some false) else (some (t145.toList == ([] : List UInt8)))) = some r := by rw [if_pos rfl] at H; exact H
              clear H
              have H := H1
              clear H1
              by_cases c57 : t146 = 0
              · rw [if_pos c57] at H
                have c57b0 : (t146 == 0) = true := beq_iff_eq.mpr c57
                have c57b1 : (t146 != 0) = false := bne_eq_false_iff_eq.mpr c57
                clear c57
                obtain rfl := Option.some.inj H
                go_wp2
                go_ret
                exact ⟨by first | rfl | (simp [errW_none, errW_some] <;> rfl) | (simp [*, errW_none, errW_some] <;> rfl), by repeat (first | (with_reducible first | exact HB.out | apply below_alloc | apply pw_below_drewN | apply below_drew1) | exact HB.out)⟩
              · rw [if_neg c57] at H
                have c57b0 : (t146 == 0) = false := beq_eq_false_iff_ne.mpr c57
                have c57b1 : (t146 != 0) = true := bne_iff_ne.mpr c57
                obtain rfl := Option.some.inj H
                go_wp2
                go_ret
                exact ⟨by first | rfl | (simp [errW_none, errW_some] <;> rfl) | (simp [*, errW_none, errW_some] <;> rfl), by repeat (first | (with_reducible first | exact HB.out | apply below_alloc | apply pw_below_drewN | apply below_drew1) | exact HB.out)⟩
            · replace c56 := Bool.eq_false_iff.mpr c56
              subst c56
              have H1 : (if t146 = 0 then (berthlaw02_QuantRoom.j2 kj21 l0 l1 l2 t145 t146 false) else (berthlaw02_QuantRoom.j2 kj21 l0 l1 l2 t145 t146 (t146 != 29))) = some r := by rw [if_neg (show ¬ (false = true) by decide)] at H; exact H
              clear H
              have H := H1
              clear H1
              have HC58 := Aside0.mk H
              clear H
              go_upto_region 7 with (fail)
              go_cut [68] (fun v68 wc => ∃ (kq : Nat) (x68_57 : Bool), v68 = .bool x68_57 ∧ Aside0 (berthlaw02_QuantRoom.j2 kq l0 l1 l2 t145 t146 x68_57 = some r) ∧ Aside0 (kq ≤ kj21) ∧ Aside0 (Below w.heap.size w wc))
              case first =>
                have H := HC58.out
                clear HC58
                by_cases c59 : t146 = 0
                · rw [if_pos c59] at H
                  have c59b0 : (t146 == 0) = true := beq_iff_eq.mpr c59
                  have c59b1 : (t146 != 0) = false := bne_eq_false_iff_eq.mpr c59
                  clear c59
                  (first | rw [c59b0] | (simp only [i64_w, i32_w]; rw [c59b0]) | skip)
                  have H' := Aside0.mk H
                  clear H
                  go_wp2
                  go_meet
                  case rel => exact ⟨_, (false), (by first | rfl | (simp; done) | (simp [*]; done) | (simp only [i64_w]; done) | (simp [i64_w, Int.tdiv_eq_ediv_of_nonneg]; done)), H', ⟨by have := HJ4.out; have := HJ21.out; first | omega | exact Nat.le_refl _⟩, ⟨by repeat (first | (with_reducible first | exact HB.out | apply below_alloc | apply pw_below_drewN | apply below_drew1) | exact HB.out)⟩⟩
                · rw [if_neg c59] at H
                  have c59b0 : (t146 == 0) = false := beq_eq_false_iff_ne.mpr c59
                  have c59b1 : (t146 != 0) = true := bne_iff_ne.mpr c59
                  (first | rw [c59b0] | (simp only [i64_w, i32_w]; rw [c59b0]) | skip)
                  have H' := Aside0.mk H
                  clear H
                  go_wp2
                  go_meet
                  case rel => exact ⟨_, ((t146 != 29)), (by first | rfl | (simp; done) | (simp [*]; done) | (simp only [i64_w]; done) | (simp [i64_w, Int.tdiv_eq_ediv_of_nonneg]; done)), H', ⟨by have := HJ4.out; have := HJ21.out; first | omega | exact Nat.le_refl _⟩, ⟨by repeat (first | (with_reducible first | exact HB.out | apply below_alloc | apply pw_below_drewN | apply below_drew1) | exact HB.out)⟩⟩
              case rest =>
                clear HC58
                try clear c1
                try clear c2
                try clear p2
                try clear c3
                try clear c4
                try clear c5
                try clear c9
                try clear c10
                try clear c11
                try clear c16
                try clear c16b0
                try clear c16b1
                try clear c17
                try clear c32
                try clear c32b0
                try clear c32b1
                try clear c35
                try clear c35b0
                try clear c35b1
                try clear c56
                try clear c57
                try clear c57b0
                try clear c57b1
                try clear c59
                try clear c59b0
                try clear c59b1
                try clear p2
                obtain ⟨kq, x68_57, rfl, HA, HJ57, HB⟩ := hcut
                cases kq with
                | zero => exact absurd HA.out (by simp [berthlaw02_QuantRoom.j2])
                | succ kj57 =>
                  have H := HA.out
                  clear HA
                  simp only [berthlaw02_QuantRoom.j2] at H
                  by_cases c60 : x68_57 = true
                  · subst c60
                    have H1 : (some false) = some r := by rw [if_pos rfl] at H; exact H
                    clear H
                    have H := H1
                    clear H1
                    obtain rfl := Option.some.inj H
                    go_wp2
                    go_ret
                    exact ⟨by first | rfl | (simp [errW_none, errW_some] <;> rfl) | (simp [*, errW_none, errW_some] <;> rfl), by repeat (first | (with_reducible first | exact HB.out | apply below_alloc | apply pw_below_drewN | apply below_drew1) | exact HB.out)⟩
                  · replace c60 := Bool.eq_false_iff.mpr c60
                    subst c60
                    have H1 : (berthlaw02_QuantRoom.l0 kj57 l1 l2 t145 t146 false l0 (l0.length : Int) 0) = some r := by rw [if_neg (show ¬ (false = true) by decide)] at H; exact H
                    clear H
                    have H := H1
                    clear H1
                    have H' := Aside0.mk H
                    clear H
                    go_wp2
                    go_loopg [9, 71] kj57 (fun kq v9 v71 w' => ∃ (x9_4 : Bool) (x71_4 : Int), v9 = .bool x9_4 ∧ v71 = .int .i64 x71_4 ∧ Aside0 (berthlaw02_QuantRoom.l0 kq l1 l2 t145 t146 x9_4 l0 (l0.length : Int) x71_4 = some r) ∧ Aside0 (kq ≤ kj57) ∧ Aside0 (Below w.heap.size w w'))
                    case atStart => exact ⟨(false), (0), (by first | rfl | (simp; done) | (simp [*]; done) | (simp only [i64_w]; done) | (simp [i64_w, Int.tdiv_eq_ediv_of_nonneg]; done)), (by first | rfl | (simp; done) | (simp [*]; done) | (simp only [i64_w]; done) | (simp [i64_w, Int.tdiv_eq_ediv_of_nonneg]; done)), H', ⟨Nat.le_refl _⟩, ⟨by repeat (first | (with_reducible first | exact HB.out | apply below_alloc | apply pw_below_drewN | apply below_drew1) | exact HB.out)⟩⟩
                    case round =>
                      clear H'
                      try clear c1
                      try clear c2
                      try clear p2
                      try clear c3
                      try clear c4
                      try clear c5
                      try clear c6
                      try clear c9
                      try clear c10
                      try clear c11
                      try clear c16
                      try clear c16b0
                      try clear c16b1
                      try clear c17
                      try clear c32
                      try clear c32b0
                      try clear c32b1
                      try clear c35
                      try clear c35b0
                      try clear c35b1
                      try clear c56
                      try clear c57
                      try clear c57b0
                      try clear c57b1
                      try clear c59
                      try clear c59b0
                      try clear c59b1
                      try clear c60
                      try clear p2
                      obtain ⟨x9_4, x71_4, rfl, rfl, HA, HK4, HB⟩ := hrel
                      cases gk with
                      | zero => exact absurd HA.out (by simp [berthlaw02_QuantRoom.l0])
                      | succ k4 =>
                        have H := HA.out
                        clear HA
                        simp only [berthlaw02_QuantRoom.l0] at H
                        by_cases c61 : x71_4 < (l0.length : Int)
                        · rw [if_pos c61] at H
                          have c61b0 : decide (x71_4 < (l0.length : Int)) = true := decide_eq_true c61
                          clear c61
                          by_cases c62 : 0 ≤ x71_4
                          · rw [if_pos c62] at H
                            have c62b0 : decide (0 ≤ x71_4) = true := decide_eq_true c62
                            clear c62
                            by_cases c63 : x71_4 < (l0.length : Int)
                            · rw [if_pos c63] at H
                              have c63b0 : decide (x71_4 < (l0.length : Int)) = true := decide_eq_true c63
                              clear c63
                              replace H := Option.bind_eq_some_iff.mp H
                              obtain ⟨t161, A640, H⟩ := H
                              replace H : ((quant_Get.f k4 l2 ((rd_T28 l0 x71_4).f0)).bind fun t162 => (if t146 = 0 then (berthlaw02_QuantRoom.j4 k4 l1 l2 t145 t146 x9_4 (wrap64 (t161 - t162)) l0 (l0.length : Int) x71_4 true ((rd_T28 l0 x71_4).f0) ((rd_T28 l0 x71_4).f1)) else (berthlaw02_QuantRoom.j4 k4 l1 l2 t145 t146 x9_4 (wrap64 (t161 - t162)) l0 (l0.length : Int) x71_4 (Op.bytesLess (((rd_T28 l0 x71_4).f0).toList) t145.toList) ((rd_T28 l0 x71_4).f0) ((rd_T28 l0 x71_4).f1)))) = some r := H
                              have A64 := Aside0.mk A640
                              clear A640
                              replace H := Option.bind_eq_some_iff.mp H
                              obtain ⟨t162, A650, H⟩ := H
                              replace H : (if t146 = 0 then (berthlaw02_QuantRoom.j4 k4 l1 l2 t145 t146 x9_4 (wrap64 (t161 - t162)) l0 (l0.length : Int) x71_4 true ((rd_T28 l0 x71_4).f0) ((rd_T28 l0 x71_4).f1)) else (berthlaw02_QuantRoom.j4 k4 l1 l2 t145 t146 x9_4 (wrap64 (t161 - t162)) l0 (l0.length : Int) x71_4 (Op.bytesLess (((rd_T28 l0 x71_4).f0).toList) t145.toList) ((rd_T28 l0 x71_4).f0) ((rd_T28 l0 x71_4).f1))) = some r := H
                              have A65 := Aside0.mk A650
                              clear A650
                              have HC66 := Aside0.mk H
                              clear H
                              have p159 : 0 ≤ (x71_4 : Int) := of_decide_eq_true (by first | (with_reducible assumption) | assumption)
                              have q159 : x71_4 < (l0.length : Int) := of_decide_eq_true (by first | (with_reducible assumption) | assumption)
                              obtain ⟨ad159, e159, hx159_0, hx159_1⟩ := at_T28 HR0.out x71_4 p159 q159
                              cases e159
                              replace hx159_0 := (HB.out.cell (World.block_lt_of_cell? w _ hx159_0)).trans hx159_0
                              replace hx159_1 := (HB.out.cell (World.block_lt_of_cell? w _ hx159_1)).trans hx159_1
                              replace p159 := eq_true p159
                              replace q159 := eq_true q159
                              try go_wp2_with (first | ((with_reducible refine gate_dst (N := 11) rfl ?_); refine box_event ?hg (N := 11) ?hd (cs := #[.string (⟨#[]⟩ : ByteArray), .int .i64 0]) (t := 28) ?hr ?_; (case hd => rfl); (case hg => rfl); (case hr => first | (go_simp; done) | (go_simp; rfl)); intro gb160 hg w67 hbox hb; have n0_ := Aside0.mk (below_step (by repeat (first | (with_reducible first | exact HB.out | apply below_alloc | apply pw_below_drewN | apply below_drew1) | exact HB.out)) hb); have n1_ := Aside0.mk (hbox); have n2_ := Aside0.mk ((by rw [hg]; exact (below_size (by repeat (first | (with_reducible first | exact HB.out | apply below_alloc | apply pw_below_drewN | apply below_drew1) | exact HB.out))) : w.heap.size ≤ gb160)); have n3_ := Aside0.mk ((by rw [hg]; exact (below_size (by repeat (first | (with_reducible first | exact HB.out | apply below_alloc | apply pw_below_drewN | apply below_drew1) | exact HB.out))) : w.heap.size ≤ gb160)); clear HB; have HB := n0_; have BK160 := n1_; have GW160 := n2_; have GE160 := n3_; clear n0_ n1_ n2_ n3_; clear hb hbox hg; have hcz68_0 : w67.cell? ⟨gb160, 0, none⟩ = some (.string (⟨#[]⟩ : ByteArray)) := (blk_cell BK160.out 0).trans rfl; have hcz68_1 : w67.cell? ⟨gb160, 1, none⟩ = some (.int .i64 0) := (blk_cell BK160.out 1).trans rfl; have hfz68_0 := blk_frozen BK160.out 0; have hfz68_1 := blk_frozen BK160.out 1))
                              have n0_ : Aside0 (((w67.setCell ⟨gb160, 0, none⟩ (.string ((rd_T28 l0 x71_4).f0))).setCell ⟨gb160, 1, none⟩ (.int .i64 ((rd_T28 l0 x71_4).f1))).heap[gb160]? = some (.cells #[.string ((rd_T28 l0 x71_4).f0), .int .i64 ((rd_T28 l0 x71_4).f1)] 28 (0, 0))) := ⟨by (with_reducible repeat (first | refine blk_drewN ?_ _ | refine blk_drew ?_ | refine blk_alloc ?_ _)); refine blk_put (cs := #[.string ((rd_T28 l0 x71_4).f0), .int .i64 0]) ?_ 1 _ rfl; (with_reducible repeat (first | refine blk_drewN ?_ _ | refine blk_drew ?_ | refine blk_alloc ?_ _)); refine blk_put (cs := #[.string (⟨#[]⟩ : ByteArray), .int .i64 0]) ?_ 0 _ rfl; (with_reducible repeat (first | refine blk_drewN ?_ _ | refine blk_drew ?_ | refine blk_alloc ?_ _)); exact BK160.out⟩
                              have n1_ : Aside0 (Below w.heap.size w ((w67.setCell ⟨gb160, 0, none⟩ (.string ((rd_T28 l0 x71_4).f0))).setCell ⟨gb160, 1, none⟩ (.int .i64 ((rd_T28 l0 x71_4).f1)))) := ⟨by repeat (first | (with_reducible first | exact HB.out | apply below_alloc | apply pw_below_drewN | apply below_drew1 | refine below_set ?_ GE160.out) | exact HB.out)⟩
                              (try clear BK160)
                              (try clear HB)
                              generalize ((w67.setCell ⟨gb160, 0, none⟩ (.string ((rd_T28 l0 x71_4).f0))).setCell ⟨gb160, 1, none⟩ (.int .i64 ((rd_T28 l0 x71_4).f1))) = w69 at n0_ n1_ ⊢
                              have BK160 := n0_
                              have HB := n1_
                              clear n0_ n1_
                              have n0_ := Aside0.mk (blk_drew BK160.out)
                              have n1_ := Aside0.mk (below_drew1 HB.out)
                              clear BK160
                              clear HB
                              have BK160 := n0_
                              have HB := n1_
                              clear n0_ n1_
                              refine start_ (n := 10) (S := fun w' => w'.cell? ⟨gb160, 0, none⟩ = some (.string ((rd_T28 l0 x71_4).f0)) ∧ w'.cell? ⟨gb160, 1, none⟩ = some (.int .i64 ((rd_T28 l0 x71_4).f1))) (ds := []) #[false, false, false, false, false, false, false, false, false, false] (by kernel_rfl) rfl rfl ⟨(blk_cell BK160.out 0).trans rfl, (blk_cell BK160.out 1).trans rfl⟩ (fun hHeld => ?_); refine with_tabW berthlaw02_QuantRoom.tab13 berthlaw02_QuantRoom.bits13 (fun HT_ HW_ => ?_)
                              generalize w69.drew = w70 at BK160 HB hHeld ⊢
                              refine pure_ (i := 0) (N := some 75) (v := ?_) (a' := ?_) #[true, false, false, false, false, false, false, false, false, false] rfl rfl (any_of HT_.out (by kernel_rfl)) (fun _ _ _ h => h) (Or.inl ⟨by rfl, ?_⟩) ?_ ?_
                              rotate_left
                              · intro w'
                                go_simp
                                with_reducible rfl
                              rotate_left
                              · simp only [Act.put, List.setIfInBounds_toArray, List.set_cons_zero, List.set_cons_succ, i64_w, i32_w]
                                rfl
                              refine pure_ (i := 1) (N := some 76) (v := ?_) (a' := ?_) #[true, true, false, false, false, false, false, false, false, false] rfl rfl (any_of HT_.out (by kernel_rfl)) (fun _ _ _ h => h) (Or.inl ⟨by rfl, ?_⟩) ?_ ?_
                              rotate_left
                              · intro w'
                                go_simp
                                with_reducible rfl
                              rotate_left
                              · simp only [Act.put, List.setIfInBounds_toArray, List.set_cons_zero, List.set_cons_succ, i64_w, i32_w]
                                rfl
                              refine pure_ (i := 4) (N := some 79) (v := ?_) (a' := ?_) #[true, true, false, false, true, false, false, false, false, false] rfl rfl (any_of HT_.out (by kernel_rfl)) (fun _ _ _ h => h) (Or.inl ⟨by rfl, ?_⟩) ?_ ?_
                              rotate_left
                              · intro w'
                                go_simp
                                with_reducible rfl
                              rotate_left
                              · simp only [Act.put, List.setIfInBounds_toArray, List.set_cons_zero, List.set_cons_succ, i64_w, i32_w]
                                rfl
                              refine pure_ (i := 5) (N := some 80) (v := ?_) (a' := ?_) #[true, true, false, false, true, true, false, false, false, false] rfl rfl (any_of HT_.out (by kernel_rfl)) (fun _ _ _ h => h) (Or.inl ⟨by rfl, ?_⟩) ?_ ?_
                              rotate_left
                              · intro w'
                                go_simp
                                with_reducible rfl
                              rotate_left
                              · simp only [Act.put, List.setIfInBounds_toArray, List.set_cons_zero, List.set_cons_succ, i64_w, i32_w]
                                rfl
                              refine take_ (i := 2) (N := some 77) (v := ?_) (a' := ?_) #[true, true, true, false, true, true, false, false, false, false] rfl rfl (take_ofW HT_.out HW_.out (by kernel_rfl)) (fun _ _ _ h => h) (Or.inl ⟨by rfl, ?_⟩) hHeld ?_ ?_
                              rotate_left
                              · rintro w' ⟨s0, s1⟩
                                go_simp
                                with_reducible rfl
                              rotate_left
                              · simp only [Act.put, List.setIfInBounds_toArray, List.set_cons_zero, List.set_cons_succ, i64_w, i32_w]
                                rfl
                              refine take_ (i := 6) (N := some 81) (v := ?_) (a' := ?_) #[true, true, true, false, true, true, true, false, false, false] rfl rfl (take_ofW HT_.out HW_.out (by kernel_rfl)) (fun _ _ _ h => h) (Or.inl ⟨by rfl, ?_⟩) hHeld ?_ ?_
                              rotate_left
                              · rintro w' ⟨s0, s1⟩
                                go_simp
                                with_reducible rfl
                              rotate_left
                              · simp only [Act.put, List.setIfInBounds_toArray, List.set_cons_zero, List.set_cons_succ, i64_w, i32_w]
                                rfl
                              refine one_ (i := 3) (N := some 78) #[true, true, true, true, true, true, true, false, false, false] rfl rfl (one_of HT_.out (by kernel_rfl)) (by decide) (fun K hK => ?_)
                              refine goes_ Try.func12 (by kernel_rfl) rfl #[.slice A1 l1.length c1, .string ((rd_T28 l0 x71_4).f0)] (by rfl) rfl rfl (by (try simp only [List.map_toArray, List.map_cons, List.map_nil]); first | done | rfl | (simp only [List.length_drop, List.length_take]; rfl)) ?_
                              with_reducible refine (quant_Get.calls k4 _ _ l1 ((rd_T28 l0 x71_4).f0) t161 _ ?side1 ?side2 A64.out).mono ?_
                              (case side1 => repeat (first | exact (Kd.C_below HR1.out HB.out) | (with_reducible refine Kd.C_alloc ?_ _) | (with_reducible refine Kd.C_drewN ?_ _) | (with_reducible refine Kd.C_drew ?_)))
                              (case side2 => exact HC1.out)
                              rintro e w71 ⟨rfl, hb⟩
                              refine ⟨_, rfl, ?_⟩
                              have n0_ := Aside0.mk (blk_below (g := gb160) (o := .cells #[.string ((rd_T28 l0 x71_4).f0), .int .i64 ((rd_T28 l0 x71_4).f1)] 28 (0, 0)) (by (with_reducible repeat (first | refine blk_drewN ?_ _ | refine blk_drew ?_ | refine blk_alloc ?_ _)); exact BK160.out) hb)
                              have n1_ := Aside0.mk (below_step (by repeat (first | (with_reducible first | exact HB.out | apply below_alloc | apply pw_below_drewN | apply below_drew1 | refine below_set ?_ GE160.out) | exact HB.out)) hb)
                              clear BK160
                              clear HB
                              have BK160 := n0_
                              have HB := n1_
                              clear n0_ n1_
                              (try clear hb)
                              (try clear hb2)
                              (try clear hk)
                              (try clear hi)
                              refine hK.out _ _ ⟨(blk_cell BK160.out 0).trans rfl, (blk_cell BK160.out 1).trans rfl⟩ (fun hHeld => ?_)
                              clear hK K
                              refine norm_ (a' := ?_) ?_ ?_
                              rotate_left
                              · show Act.put _ (some 78) _ = _
                                simp only [Act.put, List.setIfInBounds_toArray, List.set_cons_zero, List.set_cons_succ, i64_w, i32_w]
                                rfl
                              refine one_ (i := 7) (N := some 82) #[true, true, true, true, true, true, true, true, false, false] rfl rfl (one_of HT_.out (by kernel_rfl)) (by decide) (fun K hK => ?_)
                              refine goes_ Try.func12 (by kernel_rfl) rfl #[.slice A2 l2.length c2, .string ((rd_T28 l0 x71_4).f0)] (by rfl) rfl rfl (by (try simp only [List.map_toArray, List.map_cons, List.map_nil]); first | done | rfl | (simp only [List.length_drop, List.length_take]; rfl)) ?_
                              with_reducible refine (quant_Get.calls k4 _ _ l2 ((rd_T28 l0 x71_4).f0) t162 _ ?side1 ?side2 A65.out).mono ?_
                              (case side1 => repeat (first | exact (Kd.C_below HR2.out HB.out) | (with_reducible refine Kd.C_alloc ?_ _) | (with_reducible refine Kd.C_drewN ?_ _) | (with_reducible refine Kd.C_drew ?_)))
                              (case side2 => exact HC2.out)
                              rintro e w72 ⟨rfl, hb⟩
                              refine ⟨_, rfl, ?_⟩
                              have n0_ := Aside0.mk (blk_below (g := gb160) (o := .cells #[.string ((rd_T28 l0 x71_4).f0), .int .i64 ((rd_T28 l0 x71_4).f1)] 28 (0, 0)) (by (with_reducible repeat (first | refine blk_drewN ?_ _ | refine blk_drew ?_ | refine blk_alloc ?_ _)); exact BK160.out) hb)
                              have n1_ := Aside0.mk (below_step (by repeat (first | (with_reducible first | exact HB.out | apply below_alloc | apply pw_below_drewN | apply below_drew1 | refine below_set ?_ GE160.out) | exact HB.out)) hb)
                              clear BK160
                              clear HB
                              have BK160 := n0_
                              have HB := n1_
                              clear n0_ n1_
                              (try clear hb)
                              (try clear hb2)
                              (try clear hk)
                              (try clear hi)
                              refine hK.out _ _ ⟨(blk_cell BK160.out 0).trans rfl, (blk_cell BK160.out 1).trans rfl⟩ (fun hHeld => ?_)
                              clear hK K
                              refine norm_ (a' := ?_) ?_ ?_
                              rotate_left
                              · show Act.put _ (some 82) _ = _
                                simp only [Act.put, List.setIfInBounds_toArray, List.set_cons_zero, List.set_cons_succ, i64_w, i32_w]
                                rfl
                              refine pure_ (i := 8) (N := some 83) (v := ?_) (a' := ?_) #[true, true, true, true, true, true, true, true, true, false] rfl rfl (any_of HT_.out (by kernel_rfl)) (fun _ _ _ h => h) (Or.inl ⟨by rfl, ?_⟩) ?_ ?_
                              rotate_left
                              · intro w'
                                go_simp
                                with_reducible rfl
                              rotate_left
                              · simp only [Act.put, List.setIfInBounds_toArray, List.set_cons_zero, List.set_cons_succ, i64_w, i32_w]
                                rfl
                              refine pure_ (i := 9) (N := some 12) (v := ?_) (a' := ?_) #[true, true, true, true, true, true, true, true, true, true] rfl rfl (any_of HT_.out (by kernel_rfl)) (fun _ _ _ h => h) (Or.inl ⟨by rfl, ?_⟩) ?_ ?_
                              rotate_left
                              · intro w'
                                go_simp
                                with_reducible rfl
                              rotate_left
                              · simp only [Act.put, List.setIfInBounds_toArray, List.set_cons_zero, List.set_cons_succ, i64_w, i32_w]
                                rfl
                              refine done_ (done_of HT_.out (by kernel_rfl)) ?_
                              go_upto_region 14 with (fail)
                              go_cut [91] (fun v91 wc => ∃ (kq : Nat) (x91_65 : Bool), v91 = .bool x91_65 ∧ Aside0 (berthlaw02_QuantRoom.j4 kq l1 l2 t145 t146 x9_4 (wrap64 (t161 - t162)) l0 (l0.length : Int) x71_4 x91_65 ((rd_T28 l0 x71_4).f0) ((rd_T28 l0 x71_4).f1) = some r) ∧ Aside0 (kq ≤ k4) ∧ Aside0 (wc.heap[gb160]? = some (.cells #[.string ((rd_T28 l0 x71_4).f0), .int .i64 ((rd_T28 l0 x71_4).f1)] 28 (0, 0))) ∧ Aside0 (Below w.heap.size w wc))
                              case first =>
                                have H := HC66.out
                                clear HC66
                                by_cases c73 : t146 = 0
                                · rw [if_pos c73] at H
                                  have c73b0 : (t146 == 0) = true := beq_iff_eq.mpr c73
                                  have c73b1 : (t146 != 0) = false := bne_eq_false_iff_eq.mpr c73
                                  clear c73
                                  (first | rw [c73b0] | (simp only [i64_w, i32_w]; rw [c73b0]) | skip)
                                  have H' := Aside0.mk H
                                  clear H
                                  go_wp2
                                  go_meet
                                  case rel => exact ⟨_, (true), (by first | rfl | (simp; done) | (simp [*]; done) | (simp only [i64_w]; done) | (simp [i64_w, Int.tdiv_eq_ediv_of_nonneg]; done)), H', ⟨by have := HJ4.out; have := HJ21.out; have := HJ57.out; have := HK4.out; first | omega | exact Nat.le_refl _⟩, ⟨by (with_reducible repeat (first | refine blk_drewN ?_ _ | refine blk_drew ?_ | refine blk_alloc ?_ _)); exact BK160.out⟩, ⟨by repeat (first | (with_reducible first | exact HB.out | apply below_alloc | apply pw_below_drewN | apply below_drew1 | refine below_set ?_ GE160.out) | exact HB.out)⟩⟩
                                · rw [if_neg c73] at H
                                  have c73b0 : (t146 == 0) = false := beq_eq_false_iff_ne.mpr c73
                                  have c73b1 : (t146 != 0) = true := bne_iff_ne.mpr c73
                                  (first | rw [c73b0] | (simp only [i64_w, i32_w]; rw [c73b0]) | skip)
                                  have H' := Aside0.mk H
                                  clear H
                                  have hcz74_0 : w72.cell? ⟨gb160, 0, none⟩ = some (.string ((rd_T28 l0 x71_4).f0)) := (blk_cell BK160.out 0).trans rfl
                                  have hcz74_1 : w72.cell? ⟨gb160, 1, none⟩ = some (.int .i64 ((rd_T28 l0 x71_4).f1)) := (blk_cell BK160.out 1).trans rfl
                                  have hfz74_0 := blk_frozen BK160.out 0
                                  have hfz74_1 := blk_frozen BK160.out 1
                                  go_wp2
                                  go_meet
                                  case rel => exact ⟨_, ((Op.bytesLess (((rd_T28 l0 x71_4).f0).toList) t145.toList)), (by first | rfl | (simp; done) | (simp [*]; done) | (simp only [i64_w]; done) | (simp [i64_w, Int.tdiv_eq_ediv_of_nonneg]; done)), H', ⟨by have := HJ4.out; have := HJ21.out; have := HJ57.out; have := HK4.out; first | omega | exact Nat.le_refl _⟩, ⟨by (with_reducible repeat (first | refine blk_drewN ?_ _ | refine blk_drew ?_ | refine blk_alloc ?_ _)); exact BK160.out⟩, ⟨by repeat (first | (with_reducible first | exact HB.out | apply below_alloc | apply pw_below_drewN | apply below_drew1 | refine below_set ?_ GE160.out) | exact HB.out)⟩⟩
                              case rest =>
                                clear HC66
                                try clear c1
                                try clear p1
                                try clear q1
                                try clear hx1
                                try clear c2
                                try clear p2
                                try clear c3
                                try clear c4
                                try clear c5
                                try clear c6
                                try clear p6
                                try clear c7
                                try clear c9
                                try clear c10
                                try clear c11
                                try clear c12
                                try clear p15
                                try clear q15
                                try clear hx15
                                try clear c16
                                try clear c16b0
                                try clear c16b1
                                try clear c17
                                try clear c32
                                try clear c32b0
                                try clear c32b1
                                try clear c35
                                try clear c35b0
                                try clear c35b1
                                try clear c56
                                try clear c57
                                try clear c57b0
                                try clear c57b1
                                try clear c59
                                try clear c59b0
                                try clear c59b1
                                try clear c60
                                try clear c61
                                try clear c61b0
                                try clear c62
                                try clear c62b0
                                try clear c63
                                try clear c63b0
                                try clear p64
                                try clear c73
                                try clear c73b0
                                try clear c73b1
                                try clear hcz68_0
                                try clear hcz68_1
                                try clear hcz74_0
                                try clear hcz74_1
                                try clear hfz68_0
                                try clear hfz68_1
                                try clear hfz74_0
                                try clear hfz74_1
                                try clear hx159_0
                                try clear hx159_1
                                try clear p159
                                try clear p2
                                try clear q159
                                obtain ⟨kq, x91_65, rfl, HA, HJ65, BK160, HB⟩ := hcut
                                cases kq with
                                | zero => exact absurd HA.out (by simp [berthlaw02_QuantRoom.j4])
                                | succ kj65 =>
                                  have H := HA.out
                                  clear HA
                                  simp only [berthlaw02_QuantRoom.j4] at H
                                  by_cases c75 : x91_65 = true
                                  · subst c75
                                    have H1 : (if ((rd_T28 l0 x71_4).f1) > (wrap64 (t161 - t162)) then (some false) else (if t146 = 0 then (berthlaw02_QuantRoom.l0 kj65 l1 l2 t145 t146 x9_4 l0 (l0.length : Int) (wrap64 (x71_4 + 1))) else (if ((rd_T28 l0 x71_4).f0).toList = t145.toList then (berthlaw02_QuantRoom.l0 kj65 l1 l2 t145 t146 (decide (((rd_T28 l0 x71_4).f1) > (wrap64 (t161 - t162)))) l0 (l0.length : Int) (wrap64 (x71_4 + 1))) else (berthlaw02_QuantRoom.l0 kj65 l1 l2 t145 t146 x9_4 l0 (l0.length : Int) (wrap64 (x71_4 + 1)))))) = some r := by rw [if_pos rfl] at H; exact H
                                    clear H
                                    have H := H1
                                    clear H1
                                    by_cases c76 : ((rd_T28 l0 x71_4).f1) > (wrap64 (t161 - t162))
                                    · rw [if_pos c76] at H
                                      have c76b0 : decide ((wrap64 (t161 - t162)) < ((rd_T28 l0 x71_4).f1)) = true := decide_eq_true c76
                                      (try (have c76b1 : decide ((IntKind.i64.wrap (t161 - t162)) < ((rd_T28 l0 x71_4).f1)) = true := by have h_ : decide ((wrap64 (t161 - t162)) < ((rd_T28 l0 x71_4).f1)) = true := decide_eq_true c76; simp only [i64_w]; exact h_))
                                      clear c76
                                      obtain rfl := Option.some.inj H
                                      have hcz77_0 : wc.cell? ⟨gb160, 0, none⟩ = some (.string ((rd_T28 l0 x71_4).f0)) := (blk_cell BK160.out 0).trans rfl
                                      have hcz77_1 : wc.cell? ⟨gb160, 1, none⟩ = some (.int .i64 ((rd_T28 l0 x71_4).f1)) := (blk_cell BK160.out 1).trans rfl
                                      have hfz77_0 := blk_frozen BK160.out 0
                                      have hfz77_1 := blk_frozen BK160.out 1
                                      go_wp2
                                      go_ret
                                      exact ⟨by first | rfl | (simp [errW_none, errW_some] <;> rfl) | (simp [*, errW_none, errW_some] <;> rfl), by repeat (first | (with_reducible first | exact HB.out | apply below_alloc | apply pw_below_drewN | apply below_drew1 | refine below_set ?_ GE160.out) | exact HB.out)⟩
                                    · rw [if_neg c76] at H
                                      have c76b0 : decide ((wrap64 (t161 - t162)) < ((rd_T28 l0 x71_4).f1)) = false := decide_eq_false c76
                                      (try (have c76b1 : decide ((IntKind.i64.wrap (t161 - t162)) < ((rd_T28 l0 x71_4).f1)) = false := by have h_ : decide ((wrap64 (t161 - t162)) < ((rd_T28 l0 x71_4).f1)) = false := decide_eq_false c76; simp only [i64_w]; exact h_))
                                      clear c76
                                      by_cases c78 : t146 = 0
                                      · rw [if_pos c78] at H
                                        have c78b0 : (t146 == 0) = true := beq_iff_eq.mpr c78
                                        have c78b1 : (t146 != 0) = false := bne_eq_false_iff_eq.mpr c78
                                        clear c78
                                        have H' := Aside0.mk H
                                        clear H
                                        have hcz79_0 : wc.cell? ⟨gb160, 0, none⟩ = some (.string ((rd_T28 l0 x71_4).f0)) := (blk_cell BK160.out 0).trans rfl
                                        have hcz79_1 : wc.cell? ⟨gb160, 1, none⟩ = some (.int .i64 ((rd_T28 l0 x71_4).f1)) := (blk_cell BK160.out 1).trans rfl
                                        have hfz79_0 := blk_frozen BK160.out 0
                                        have hfz79_1 := blk_frozen BK160.out 1
                                        go_wp2
                                        go_roundg kj65
                                        case measure => have := HJ4.out; have := HJ21.out; have := HJ57.out; have := HK4.out; have := HJ65.out; omega
                                        case rel => exact ⟨(x9_4), (wrap64 (x71_4 + 1)), (by first | rfl | (simp; done) | (simp [*]; done) | (simp only [i64_w]; done) | (simp [i64_w, Int.tdiv_eq_ediv_of_nonneg]; done)), (by first | rfl | (simp; done) | (simp [*]; done) | (simp only [i64_w]; done) | (simp [i64_w, Int.tdiv_eq_ediv_of_nonneg]; done)), H', ⟨by have := HJ4.out; have := HJ21.out; have := HJ57.out; have := HK4.out; have := HJ65.out; omega⟩, ⟨by repeat (first | (with_reducible first | exact HB.out | apply below_alloc | apply pw_below_drewN | apply below_drew1 | refine below_set ?_ GE160.out) | exact HB.out)⟩⟩
                                      · rw [if_neg c78] at H
                                        have c78b0 : (t146 == 0) = false := beq_eq_false_iff_ne.mpr c78
                                        have c78b1 : (t146 != 0) = true := bne_iff_ne.mpr c78
                                        by_cases c80 : ((rd_T28 l0 x71_4).f0).toList = t145.toList
                                        · rw [if_pos c80] at H
                                          have c80b0 : (((rd_T28 l0 x71_4).f0).toList == t145.toList) = true := beq_iff_eq.mpr c80
                                          have c80b1 : (((rd_T28 l0 x71_4).f0).toList != t145.toList) = false := bne_eq_false_iff_eq.mpr c80
                                          clear c80
                                          have H' := Aside0.mk H
                                          clear H
                                          have hcz81_0 : wc.cell? ⟨gb160, 0, none⟩ = some (.string ((rd_T28 l0 x71_4).f0)) := (blk_cell BK160.out 0).trans rfl
                                          have hcz81_1 : wc.cell? ⟨gb160, 1, none⟩ = some (.int .i64 ((rd_T28 l0 x71_4).f1)) := (blk_cell BK160.out 1).trans rfl
                                          have hfz81_0 := blk_frozen BK160.out 0
                                          have hfz81_1 := blk_frozen BK160.out 1
                                          go_wp2
                                          go_roundg kj65
                                          case measure => have := HJ4.out; have := HJ21.out; have := HJ57.out; have := HK4.out; have := HJ65.out; omega
                                          case rel => exact ⟨(decide (((rd_T28 l0 x71_4).f1) > (wrap64 (t161 - t162)))), (wrap64 (x71_4 + 1)), (by first | rfl | (simp; done) | (simp [*]; done) | (simp only [i64_w]; done) | (simp [i64_w, Int.tdiv_eq_ediv_of_nonneg]; done)), (by first | rfl | (simp; done) | (simp [*]; done) | (simp only [i64_w]; done) | (simp [i64_w, Int.tdiv_eq_ediv_of_nonneg]; done)), H', ⟨by have := HJ4.out; have := HJ21.out; have := HJ57.out; have := HK4.out; have := HJ65.out; omega⟩, ⟨by repeat (first | (with_reducible first | exact HB.out | apply below_alloc | apply pw_below_drewN | apply below_drew1 | refine below_set ?_ GE160.out) | exact HB.out)⟩⟩
                                        · rw [if_neg c80] at H
                                          have c80b0 : (((rd_T28 l0 x71_4).f0).toList == t145.toList) = false := beq_eq_false_iff_ne.mpr c80
                                          have c80b1 : (((rd_T28 l0 x71_4).f0).toList != t145.toList) = true := bne_iff_ne.mpr c80
                                          have H' := Aside0.mk H
                                          clear H
                                          have hcz82_0 : wc.cell? ⟨gb160, 0, none⟩ = some (.string ((rd_T28 l0 x71_4).f0)) := (blk_cell BK160.out 0).trans rfl
                                          have hcz82_1 : wc.cell? ⟨gb160, 1, none⟩ = some (.int .i64 ((rd_T28 l0 x71_4).f1)) := (blk_cell BK160.out 1).trans rfl
                                          have hfz82_0 := blk_frozen BK160.out 0
                                          have hfz82_1 := blk_frozen BK160.out 1
                                          go_wp2
                                          go_roundg kj65
                                          case measure => have := HJ4.out; have := HJ21.out; have := HJ57.out; have := HK4.out; have := HJ65.out; omega
                                          case rel => exact ⟨(x9_4), (wrap64 (x71_4 + 1)), (by first | rfl | (simp; done) | (simp [*]; done) | (simp only [i64_w]; done) | (simp [i64_w, Int.tdiv_eq_ediv_of_nonneg]; done)), (by first | rfl | (simp; done) | (simp [*]; done) | (simp only [i64_w]; done) | (simp [i64_w, Int.tdiv_eq_ediv_of_nonneg]; done)), H', ⟨by have := HJ4.out; have := HJ21.out; have := HJ57.out; have := HK4.out; have := HJ65.out; omega⟩, ⟨by repeat (first | (with_reducible first | exact HB.out | apply below_alloc | apply pw_below_drewN | apply below_drew1 | refine below_set ?_ GE160.out) | exact HB.out)⟩⟩
                                  · replace c75 := Bool.eq_false_iff.mpr c75
                                    subst c75
                                    have H1 : (if t146 = 0 then (berthlaw02_QuantRoom.l0 kj65 l1 l2 t145 t146 x9_4 l0 (l0.length : Int) (wrap64 (x71_4 + 1))) else (if ((rd_T28 l0 x71_4).f0).toList = t145.toList then (berthlaw02_QuantRoom.l0 kj65 l1 l2 t145 t146 (decide (((rd_T28 l0 x71_4).f1) > (wrap64 (t161 - t162)))) l0 (l0.length : Int) (wrap64 (x71_4 + 1))) else (berthlaw02_QuantRoom.l0 kj65 l1 l2 t145 t146 x9_4 l0 (l0.length : Int) (wrap64 (x71_4 + 1))))) = some r := by rw [if_neg (show ¬ (false = true) by decide)] at H; exact H
                                    clear H
                                    have H := H1
                                    clear H1
                                    by_cases c83 : t146 = 0
                                    · rw [if_pos c83] at H
                                      have c83b0 : (t146 == 0) = true := beq_iff_eq.mpr c83
                                      have c83b1 : (t146 != 0) = false := bne_eq_false_iff_eq.mpr c83
                                      clear c83
                                      have H' := Aside0.mk H
                                      clear H
                                      go_wp2
                                      go_roundg kj65
                                      case measure => have := HJ4.out; have := HJ21.out; have := HJ57.out; have := HK4.out; have := HJ65.out; omega
                                      case rel => exact ⟨(x9_4), (wrap64 (x71_4 + 1)), (by first | rfl | (simp; done) | (simp [*]; done) | (simp only [i64_w]; done) | (simp [i64_w, Int.tdiv_eq_ediv_of_nonneg]; done)), (by first | rfl | (simp; done) | (simp [*]; done) | (simp only [i64_w]; done) | (simp [i64_w, Int.tdiv_eq_ediv_of_nonneg]; done)), H', ⟨by have := HJ4.out; have := HJ21.out; have := HJ57.out; have := HK4.out; have := HJ65.out; omega⟩, ⟨by repeat (first | (with_reducible first | exact HB.out | apply below_alloc | apply pw_below_drewN | apply below_drew1 | refine below_set ?_ GE160.out) | exact HB.out)⟩⟩
                                    · rw [if_neg c83] at H
                                      have c83b0 : (t146 == 0) = false := beq_eq_false_iff_ne.mpr c83
                                      have c83b1 : (t146 != 0) = true := bne_iff_ne.mpr c83
                                      by_cases c84 : ((rd_T28 l0 x71_4).f0).toList = t145.toList
                                      · rw [if_pos c84] at H
                                        have c84b0 : (((rd_T28 l0 x71_4).f0).toList == t145.toList) = true := beq_iff_eq.mpr c84
                                        have c84b1 : (((rd_T28 l0 x71_4).f0).toList != t145.toList) = false := bne_eq_false_iff_eq.mpr c84
                                        clear c84
                                        have H' := Aside0.mk H
                                        clear H
                                        have hcz85_0 : wc.cell? ⟨gb160, 0, none⟩ = some (.string ((rd_T28 l0 x71_4).f0)) := (blk_cell BK160.out 0).trans rfl
                                        have hcz85_1 : wc.cell? ⟨gb160, 1, none⟩ = some (.int .i64 ((rd_T28 l0 x71_4).f1)) := (blk_cell BK160.out 1).trans rfl
                                        have hfz85_0 := blk_frozen BK160.out 0
                                        have hfz85_1 := blk_frozen BK160.out 1
                                        go_wp2
                                        go_roundg kj65
                                        case measure => have := HJ4.out; have := HJ21.out; have := HJ57.out; have := HK4.out; have := HJ65.out; omega
                                        case rel => exact ⟨(decide (((rd_T28 l0 x71_4).f1) > (wrap64 (t161 - t162)))), (wrap64 (x71_4 + 1)), (by first | rfl | (simp; done) | (simp [*]; done) | (simp only [i64_w]; done) | (simp [i64_w, Int.tdiv_eq_ediv_of_nonneg]; done)), (by first | rfl | (simp; done) | (simp [*]; done) | (simp only [i64_w]; done) | (simp [i64_w, Int.tdiv_eq_ediv_of_nonneg]; done)), H', ⟨by have := HJ4.out; have := HJ21.out; have := HJ57.out; have := HK4.out; have := HJ65.out; omega⟩, ⟨by repeat (first | (with_reducible first | exact HB.out | apply below_alloc | apply pw_below_drewN | apply below_drew1 | refine below_set ?_ GE160.out) | exact HB.out)⟩⟩
                                      · rw [if_neg c84] at H
                                        have c84b0 : (((rd_T28 l0 x71_4).f0).toList == t145.toList) = false := beq_eq_false_iff_ne.mpr c84
                                        have c84b1 : (((rd_T28 l0 x71_4).f0).toList != t145.toList) = true := bne_iff_ne.mpr c84
                                        have H' := Aside0.mk H
                                        clear H
                                        have hcz86_0 : wc.cell? ⟨gb160, 0, none⟩ = some (.string ((rd_T28 l0 x71_4).f0)) := (blk_cell BK160.out 0).trans rfl
                                        have hcz86_1 : wc.cell? ⟨gb160, 1, none⟩ = some (.int .i64 ((rd_T28 l0 x71_4).f1)) := (blk_cell BK160.out 1).trans rfl
                                        have hfz86_0 := blk_frozen BK160.out 0
                                        have hfz86_1 := blk_frozen BK160.out 1
                                        go_wp2
                                        go_roundg kj65
                                        case measure => have := HJ4.out; have := HJ21.out; have := HJ57.out; have := HK4.out; have := HJ65.out; omega
                                        case rel => exact ⟨(x9_4), (wrap64 (x71_4 + 1)), (by first | rfl | (simp; done) | (simp [*]; done) | (simp only [i64_w]; done) | (simp [i64_w, Int.tdiv_eq_ediv_of_nonneg]; done)), (by first | rfl | (simp; done) | (simp [*]; done) | (simp only [i64_w]; done) | (simp [i64_w, Int.tdiv_eq_ediv_of_nonneg]; done)), H', ⟨by have := HJ4.out; have := HJ21.out; have := HJ57.out; have := HK4.out; have := HJ65.out; omega⟩, ⟨by repeat (first | (with_reducible first | exact HB.out | apply below_alloc | apply pw_below_drewN | apply below_drew1 | refine below_set ?_ GE160.out) | exact HB.out)⟩⟩
                            · rw [if_neg c63] at H
                              exact absurd H (by simp)
                          · rw [if_neg c62] at H
                            exact absurd H (by simp)
                        · rw [if_neg c61] at H
                          have c61b0 : decide (x71_4 < (l0.length : Int)) = false := decide_eq_false c61
                          clear c61
                          by_cases c87 : (x9_4 == (t146 != 0)) = true
                          · rw [if_pos c87] at H
                            have c87b0 : (x9_4 == (t146 != 0)) = true := c87
                            (try (have c87b1 : decide (x9_4 = (t146 != 0)) = true := by simpa using c87))
                            (try (have c87b2 : (x9_4 == (t146 != 0)) = true := by simpa using c87))
                            clear c87
                            by_cases c88 : t146 = 0
                            · rw [if_pos c88] at H
                              have c88b0 : (t146 == 0) = true := beq_iff_eq.mpr c88
                              have c88b1 : (t146 != 0) = false := bne_eq_false_iff_eq.mpr c88
                              clear c88
                              have hx9_ : x9_4 = false := by simpa [c88b1] using c87b0
                              clear c87b0 c87b1 c87b2
                              subst hx9_
                              obtain rfl := Option.some.inj H
                              go_wp2
                              go_ret
                              exact ⟨by first | rfl | (simp [errW_none, errW_some] <;> rfl) | (simp [*, errW_none, errW_some] <;> rfl), by repeat (first | (with_reducible first | exact HB.out | apply below_alloc | apply pw_below_drewN | apply below_drew1) | exact HB.out)⟩
                            · rw [if_neg c88] at H
                              have c88b0 : (t146 == 0) = false := beq_eq_false_iff_ne.mpr c88
                              have c88b1 : (t146 != 0) = true := bne_iff_ne.mpr c88
                              have hx9_ : x9_4 = true := by simpa [c88b1] using c87b0
                              clear c87b0 c87b1 c87b2
                              subst hx9_
                              obtain rfl := Option.some.inj H
                              go_wp2
                              go_ret
                              exact ⟨by first | rfl | (simp [errW_none, errW_some] <;> rfl) | (simp [*, errW_none, errW_some] <;> rfl), by repeat (first | (with_reducible first | exact HB.out | apply below_alloc | apply pw_below_drewN | apply below_drew1) | exact HB.out)⟩
                          · rw [if_neg c87] at H
                            have c87b0 : (x9_4 == (t146 != 0)) = false := by simpa using c87
                            (try (have c87b1 : decide (x9_4 = (t146 != 0)) = false := by simpa using c87))
                            (try (have c87b2 : (x9_4 == (t146 != 0)) = false := by simpa using c87))
                            (try (have c87b3 : ¬ (x9_4 = (t146 != 0)) := by simpa using c87))
                            clear c87
                            obtain rfl := Option.some.inj H
                            go_wp2
                            go_ret
                            exact ⟨by first | rfl | (simp [errW_none, errW_some] <;> rfl) | (simp [*, errW_none, errW_some] <;> rfl), by repeat (first | (with_reducible first | exact HB.out | apply below_alloc | apply pw_below_drewN | apply below_drew1) | exact HB.out)⟩

end Go.Proofs.Ytbibnendaddbhaa.All
