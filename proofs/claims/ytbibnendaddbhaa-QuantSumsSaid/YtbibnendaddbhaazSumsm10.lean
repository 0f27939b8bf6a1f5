/- A part of the proof of QuantSums: walks written by a program of this session. -/
import Derived.Test.YtbibnendaddbhaazSumsm0
import Derived.Test.YtbibnendaddbhaazSumsm7
namespace Go.Proofs.Ytbibnendaddbhaa.All
open Go.RowKit Go.Proofs.YtbibnendaddbhaaW.PrintWords Go.Proofs.YtbibnendaddbhaaW.PrintLast Go.Proofs.YtbibnendaddbhaaW.PrintMore
attribute [local go_sem] max2_int min2_int max_two min_two max_three min_three max_four min_four
attribute [local go_sem] Go.Proofs.YtbibnendaddbhaaX.binOp_leq Go.Proofs.YtbibnendaddbhaaX.binOp_geq Go.Proofs.YtbibnendaddbhaaX.binOp_gtr
set_option linter.unusedVariables false
set_option linter.unusedSimpArgs false
mutual
def berthref02_Short.j0 : Nat → List (S28) → List (S28) → List (S28) → Int → Option (ByteArray × Int)
  | 0, _, _, _, _ => none
  | k + 1, x0, x1, x2, x8 => if x8 = 0 then ((berthref02_Check.f k x2).bind fun t404 => (berthref02_Short.j1 k x0 x1 x2 t404)) else (berthref02_Short.j1 k x0 x1 x2 x8)
def berthref02_Short.j1 : Nat → List (S28) → List (S28) → List (S28) → Int → Option (ByteArray × Int)
  | 0, _, _, _, _ => none
  | k + 1, x0, x1, x2, x8 => if x8 = 0 then (berthref02_Short.l0 k x0 x1 x2 0) else (some ((⟨#[]⟩ : ByteArray), x8))
def berthref02_Short.l0 : Nat → List (S28) → List (S28) → List (S28) → Int → Option (ByteArray × Int)
  | 0, _, _, _, _ => none
  | k + 1, x0, x1, x2, x9 => if x9 < (x0.length : Int) then (if 0 ≤ x9 then ((berthref02_Get.f k x1 ((rd_T28 x0 x9).f0)).bind fun t406 => ((berthref02_Get.f k x2 ((rd_T28 x0 x9).f0)).bind fun t408 => (if (wrap64 (t406 - t408)) < ((rd_T28 x0 x9).f1) then (some ((rd_T28 x0 x9).f0, 29)) else (berthref02_Short.l0 k x0 x1 x2 (wrap64 (x9 + 1)))))) else (none)) else (some ((⟨#[]⟩ : ByteArray), 0))
end
def berthref02_Short.f (k : Nat) (l0 : List (S28)) (l1 : List (S28)) (l2 : List (S28)) : Option (ByteArray × Int) := (berthref02_Check.f k l0).bind fun t402 => (if t402 = 0 then ((berthref02_Check.f k l1).bind fun t403 => (berthref02_Short.j0 k l0 l1 l2 t403)) else (berthref02_Short.j0 k l0 l1 l2 t402))
theorem berthref02_Short.mono_l : ∀ k, (∀ y0 y1 y2 y3, LeO (berthref02_Short.j0 k y0 y1 y2 y3) (berthref02_Short.j0 (k + 1) y0 y1 y2 y3)) ∧ (∀ y0 y1 y2 y3, LeO (berthref02_Short.j1 k y0 y1 y2 y3) (berthref02_Short.j1 (k + 1) y0 y1 y2 y3)) ∧ (∀ y0 y1 y2 y3, LeO (berthref02_Short.l0 k y0 y1 y2 y3) (berthref02_Short.l0 (k + 1) y0 y1 y2 y3))
  | 0 => ⟨fun _ _ _ _ r h => by simp [berthref02_Short.j0] at h, fun _ _ _ _ r h => by simp [berthref02_Short.j1] at h, fun _ _ _ _ r h => by simp [berthref02_Short.l0] at h⟩
  | k + 1 => by
    obtain ⟨ih0, ih1, ih2⟩ := berthref02_Short.mono_l k
    refine ⟨?_, ?_, ?_⟩
    · intro y0 y1 y2 y3
      unfold berthref02_Short.j0
      repeat' first
      | (with_reducible exact ih0 _ _ _ _)
      | (with_reducible exact ih1 _ _ _ _)
      | (with_reducible exact ih2 _ _ _ _)
      | (with_reducible exact berthref02_Check.mono _ _)
      | (with_reducible exact berthref02_Get.mono _ _ _)
      | (with_reducible exact LeO.refl _)
      | (with_reducible exact LeO.none _)
      | (with_reducible refine LeO.ite ?_ ?_)
      | (with_reducible refine LeO.bind ?_ (fun _ => ?_))
      | exact ih0 _ _ _ _
      | exact ih1 _ _ _ _
      | exact ih2 _ _ _ _
      | exact berthref02_Check.mono _ _
      | exact berthref02_Get.mono _ _ _
      | exact LeO.none _
      | refine LeO.ite ?_ ?_
      | refine LeO.bind ?_ (fun _ => ?_)
    · intro y0 y1 y2 y3
      unfold berthref02_Short.j1
      repeat' first
      | (with_reducible exact ih0 _ _ _ _)
      | (with_reducible exact ih1 _ _ _ _)
      | (with_reducible exact ih2 _ _ _ _)
      | (with_reducible exact berthref02_Check.mono _ _)
      | (with_reducible exact berthref02_Get.mono _ _ _)
      | (with_reducible exact LeO.refl _)
      | (with_reducible exact LeO.none _)
      | (with_reducible refine LeO.ite ?_ ?_)
      | (with_reducible refine LeO.bind ?_ (fun _ => ?_))
      | exact ih0 _ _ _ _
      | exact ih1 _ _ _ _
      | exact ih2 _ _ _ _
      | exact berthref02_Check.mono _ _
      | exact berthref02_Get.mono _ _ _
      | exact LeO.none _
      | refine LeO.ite ?_ ?_
      | refine LeO.bind ?_ (fun _ => ?_)
    · intro y0 y1 y2 y3
      unfold berthref02_Short.l0
      repeat' first
      | (with_reducible exact ih0 _ _ _ _)
      | (with_reducible exact ih1 _ _ _ _)
      | (with_reducible exact ih2 _ _ _ _)
      | (with_reducible exact berthref02_Check.mono _ _)
      | (with_reducible exact berthref02_Get.mono _ _ _)
      | (with_reducible exact LeO.refl _)
      | (with_reducible exact LeO.none _)
      | (with_reducible refine LeO.ite ?_ ?_)
      | (with_reducible refine LeO.bind ?_ (fun _ => ?_))
      | exact ih0 _ _ _ _
      | exact ih1 _ _ _ _
      | exact ih2 _ _ _ _
      | exact berthref02_Check.mono _ _
      | exact berthref02_Get.mono _ _ _
      | exact LeO.none _
      | refine LeO.ite ?_ ?_
      | refine LeO.bind ?_ (fun _ => ?_)
theorem berthref02_Short.mono : ∀ a0 a1 a2 k, LeO (berthref02_Short.f k a0 a1 a2) (berthref02_Short.f (k + 1) a0 a1 a2) := by
  intro a0 a1 a2 k
  obtain ⟨ih0, ih1, ih2⟩ := berthref02_Short.mono_l k
  unfold berthref02_Short.f
  repeat' first
      | (with_reducible exact ih0 _ _ _ _)
      | (with_reducible exact ih1 _ _ _ _)
      | (with_reducible exact ih2 _ _ _ _)
      | (with_reducible exact berthref02_Check.mono _ _)
      | (with_reducible exact berthref02_Get.mono _ _ _)
      | (with_reducible exact LeO.refl _)
      | (with_reducible exact LeO.none _)
      | (with_reducible refine LeO.ite ?_ ?_)
      | (with_reducible refine LeO.bind ?_ (fun _ => ?_))
      | exact ih0 _ _ _ _
      | exact ih1 _ _ _ _
      | exact ih2 _ _ _ _
      | exact berthref02_Check.mono _ _
      | exact berthref02_Get.mono _ _ _
      | exact LeO.none _
      | refine LeO.ite ?_ ?_
      | refine LeO.bind ?_ (fun _ => ?_)
set_option maxHeartbeats 8000000 in
set_option maxRecDepth 100000 in
theorem berthref02_Short.calls (k : Nat) (A0 : Option Addr) (c0 : Nat) (l0 : List (S28)) (A1 : Option Addr) (c1 : Nat) (l1 : List (S28)) (A2 : Option Addr) (c2 : Nat) (l2 : List (S28)) (r1 : ByteArray) (r2 : Int) (w : World) (hr0 : Kd.C k28 w A0 l0.length l0) (hc0 : l0.length ≤ c0) (hr1 : Kd.C k28 w A1 l1.length l1) (hc1 : l1.length ≤ c1) (hr2 : Kd.C k28 w A2 l2.length l2) (hc2 : l2.length ≤ c2) (h : berthref02_Short.f k l0 l1 l2 = some (r1, r2)) :
 Calls Try.prog 31 #[.slice A0 l0.length c0, .slice A1 l1.length c1, .slice A2 l2.length c2] w fun e w' => e = .returned (.tuple #[.string r1, .int .i64 r2]) ∧ Drawn0 w w' := by
 have HR0 := Aside0.mk hr0
 have HC0 := Aside0.mk hc0
 clear hr0 hc0
 have HR1 := Aside0.mk hr1
 have HC1 := Aside0.mk hc1
 clear hr1 hc1
 have HR2 := Aside0.mk hr2
 have HC2 := Aside0.mk hc2
 clear hr2 hc2
 have H : ((berthref02_Check.f k l0).bind fun t402 => (if t402 = 0 then ((berthref02_Check.f k l1).bind fun t403 => (berthref02_Short.j0 k l0 l1 l2 t403)) else (berthref02_Short.j0 k l0 l1 l2 t402))) = some (r1, r2) := h
 clear h
 replace H := Option.bind_eq_some_iff.mp H
 obtain ⟨t402, A40, H⟩ := H
 replace H : (if t402 = 0 then ((berthref02_Check.f k l1).bind fun t403 => (berthref02_Short.j0 k l0 l1 l2 t403)) else (berthref02_Short.j0 k l0 l1 l2 t402)) = some (r1, r2) := H
 have A4 := Aside0.mk A40
 clear A40
 have HC5 := Aside0.mk H
 clear H
 go_enter Try.func31, Try.ntmps31
 go_upto_if 14 with (first | (go_at_call 33; (with_reducible refine (berthref02_Check.calls k _ _ l0 t402 _ ?side1 ?side2 A4.out).mono ?_); (case side1 => repeat (first | exact HR0.out | (with_reducible refine Kd.C_alloc ?_ _) | (with_reducible refine Kd.C_drewN ?_ _) | (with_reducible refine Kd.C_drew ?_))); (case side2 => exact HC0.out); rintro e w' ⟨rfl, ⟨nd, rfl⟩⟩; (try first | exact ⟨rfl, _, World.drewN_drewN _ _ _⟩ | exact ⟨rfl, _, Eq.trans (World.drewN_drewN _ _ _) (congrArg (World.drewN _) (Nat.add_assoc _ _ _))⟩)))
 repeat (go_quiet (first | (go_at_call 33; (with_reducible refine (berthref02_Check.calls k _ _ l0 t402 _ ?side1 ?side2 A4.out).mono ?_); (case side1 => repeat (first | exact HR0.out | (with_reducible refine Kd.C_alloc ?_ _) | (with_reducible refine Kd.C_drewN ?_ _) | (with_reducible refine Kd.C_drew ?_))); (case side2 => exact HC0.out); rintro e w' ⟨rfl, ⟨nd, rfl⟩⟩; (try first | exact ⟨rfl, _, World.drewN_drewN _ _ _⟩ | exact ⟨rfl, _, Eq.trans (World.drewN_drewN _ _ _) (congrArg (World.drewN _) (Nat.add_assoc _ _ _))⟩))); go_upto_if 14 with (first | (go_at_call 33; (with_reducible refine (berthref02_Check.calls k _ _ l0 t402 _ ?side1 ?side2 A4.out).mono ?_); (case side1 => repeat (first | exact HR0.out | (with_reducible refine Kd.C_alloc ?_ _) | (with_reducible refine Kd.C_drewN ?_ _) | (with_reducible refine Kd.C_drew ?_))); (case side2 => exact HC0.out); rintro e w' ⟨rfl, ⟨nd, rfl⟩⟩; (try first | exact ⟨rfl, _, World.drewN_drewN _ _ _⟩ | exact ⟨rfl, _, Eq.trans (World.drewN_drewN _ _ _) (congrArg (World.drewN _) (Nat.add_assoc _ _ _))⟩))))
 (try simp only [Act.put, List.setIfInBounds_toArray, List.set_cons_zero, List.set_cons_succ])
 go_cut [8] (fun v8 wc => ∃ (kq : Nat) (x8_4 : Int), v8 = .int .i64 x8_4 ∧ Aside0 (berthref02_Short.j0 kq l0 l1 l2 x8_4 = some (r1, r2)) ∧ Aside0 (kq ≤ k) ∧ Drawn0 w wc)
 case first =>
  have H := HC5.out
  clear HC5
  by_cases c6 : t402 = 0
  ·
   rw [if_pos c6] at H
   have c6b0 : (t402 == 0) = true := beq_iff_eq.mpr c6
   have c6b1 : (t402 != 0) = false := bne_eq_false_iff_eq.mpr c6
   clear c6
   (first | rw [c6b0] | (simp only [i64_w, i32_w]; rw [c6b0]) | skip)
   replace H := Option.bind_eq_some_iff.mp H
   obtain ⟨t403, A70, H⟩ := H
   replace H : (berthref02_Short.j0 k l0 l1 l2 t403) = some (r1, r2) := H
   have A7 := Aside0.mk A70
   clear A70
   have H' := Aside0.mk H
   clear H
   go_wp2_with (first | (go_at_call 33; (with_reducible refine (berthref02_Check.calls k _ _ l1 t403 _ ?side1 ?side2 A7.out).mono ?_); (case side1 => repeat (first | exact HR1.out | (with_reducible refine Kd.C_alloc ?_ _) | (with_reducible refine Kd.C_drewN ?_ _) | (with_reducible refine Kd.C_drew ?_))); (case side2 => exact HC1.out); rintro e w' ⟨rfl, ⟨nd, rfl⟩⟩; (try first | exact ⟨rfl, _, World.drewN_drewN _ _ _⟩ | exact ⟨rfl, _, Eq.trans (World.drewN_drewN _ _ _) (congrArg (World.drewN _) (Nat.add_assoc _ _ _))⟩)))
   repeat (go_quiet (first | (go_at_call 33; (with_reducible refine (berthref02_Check.calls k _ _ l1 t403 _ ?side1 ?side2 A7.out).mono ?_); (case side1 => repeat (first | exact HR1.out | (with_reducible refine Kd.C_alloc ?_ _) | (with_reducible refine Kd.C_drewN ?_ _) | (with_reducible refine Kd.C_drew ?_))); (case side2 => exact HC1.out); rintro e w' ⟨rfl, ⟨nd, rfl⟩⟩; (try first | exact ⟨rfl, _, World.drewN_drewN _ _ _⟩ | exact ⟨rfl, _, Eq.trans (World.drewN_drewN _ _ _) (congrArg (World.drewN _) (Nat.add_assoc _ _ _))⟩))); try go_wp2_with (first | (go_at_call 33; (with_reducible refine (berthref02_Check.calls k _ _ l1 t403 _ ?side1 ?side2 A7.out).mono ?_); (case side1 => repeat (first | exact HR1.out | (with_reducible refine Kd.C_alloc ?_ _) | (with_reducible refine Kd.C_drewN ?_ _) | (with_reducible refine Kd.C_drew ?_))); (case side2 => exact HC1.out); rintro e w' ⟨rfl, ⟨nd, rfl⟩⟩; (try first | exact ⟨rfl, _, World.drewN_drewN _ _ _⟩ | exact ⟨rfl, _, Eq.trans (World.drewN_drewN _ _ _) (congrArg (World.drewN _) (Nat.add_assoc _ _ _))⟩))))
   go_meet
   case rel => exact ⟨_, (t403), (by first | rfl | (simp; done) | (simp [*]; done) | (simp only [i64_w]; done) | (simp [i64_w, Int.tdiv_eq_ediv_of_nonneg]; done)), H', ⟨by first | omega | exact Nat.le_refl _⟩, by repeat (first | exact Drawn0.refl _ | apply Drawn0.step)⟩
  ·
   rw [if_neg c6] at H
   have c6b0 : (t402 == 0) = false := beq_eq_false_iff_ne.mpr c6
   have c6b1 : (t402 != 0) = true := bne_iff_ne.mpr c6
   (first | rw [c6b0] | (simp only [i64_w, i32_w]; rw [c6b0]) | skip)
   have H' := Aside0.mk H
   clear H
   go_wp2
   repeat (go_quiet (fail); try go_wp2)
   go_meet
   case rel => exact ⟨_, (t402), (by first | rfl | (simp; done) | (simp [*]; done) | (simp only [i64_w]; done) | (simp [i64_w, Int.tdiv_eq_ediv_of_nonneg]; done)), H', ⟨by first | omega | exact Nat.le_refl _⟩, by repeat (first | exact Drawn0.refl _ | apply Drawn0.step)⟩
 case rest =>
  clear HC5
  try clear c1
  try clear c2
  try clear p2
  try clear c3
  try clear c6
  try clear c6b0
  try clear c6b1
  obtain ⟨kq, x8_4, rfl, HA, HJ4, ⟨mc4, rfl⟩⟩ := hcut
  cases kq with
  | zero => exact absurd HA.out (by simp [berthref02_Short.j0])
  | succ kj4 =>
   have H := HA.out
   clear HA
   simp only [berthref02_Short.j0] at H
   have HC8 := Aside0.mk H
   clear H
   go_upto_if 18 with (fail)
   repeat (go_quiet (fail); go_upto_if 18 with (fail))
   go_cut [8] (fun v8 wc => ∃ (kq : Nat) (x8_7 : Int), v8 = .int .i64 x8_7 ∧ Aside0 (berthref02_Short.j1 kq l0 l1 l2 x8_7 = some (r1, r2)) ∧ Aside0 (kq ≤ kj4) ∧ Drawn0 w wc)
   case first =>
    have H := HC8.out
    clear HC8
    by_cases c9 : x8_4 = 0
    ·
     rw [if_pos c9] at H
     have c9b0 : (x8_4 == 0) = true := beq_iff_eq.mpr c9
     have c9b1 : (x8_4 != 0) = false := bne_eq_false_iff_eq.mpr c9
     clear c9
     (first | rw [c9b0] | (simp only [i64_w, i32_w]; rw [c9b0]) | skip)
     replace H := Option.bind_eq_some_iff.mp H
     obtain ⟨t404, A100, H⟩ := H
     replace H : (berthref02_Short.j1 kj4 l0 l1 l2 t404) = some (r1, r2) := H
     have A10 := Aside0.mk A100
     clear A100
     have H' := Aside0.mk H
     clear H
     go_wp2_with (first | (go_at_call 33; (with_reducible refine (berthref02_Check.calls kj4 _ _ l2 t404 _ ?side1 ?side2 A10.out).mono ?_); (case side1 => repeat (first | exact HR2.out | (with_reducible refine Kd.C_alloc ?_ _) | (with_reducible refine Kd.C_drewN ?_ _) | (with_reducible refine Kd.C_drew ?_))); (case side2 => exact HC2.out); rintro e w' ⟨rfl, ⟨nd, rfl⟩⟩; (try first | exact ⟨rfl, _, World.drewN_drewN _ _ _⟩ | exact ⟨rfl, _, Eq.trans (World.drewN_drewN _ _ _) (congrArg (World.drewN _) (Nat.add_assoc _ _ _))⟩)))
     repeat (go_quiet (first | (go_at_call 33; (with_reducible refine (berthref02_Check.calls kj4 _ _ l2 t404 _ ?side1 ?side2 A10.out).mono ?_); (case side1 => repeat (first | exact HR2.out | (with_reducible refine Kd.C_alloc ?_ _) | (with_reducible refine Kd.C_drewN ?_ _) | (with_reducible refine Kd.C_drew ?_))); (case side2 => exact HC2.out); rintro e w' ⟨rfl, ⟨nd, rfl⟩⟩; (try first | exact ⟨rfl, _, World.drewN_drewN _ _ _⟩ | exact ⟨rfl, _, Eq.trans (World.drewN_drewN _ _ _) (congrArg (World.drewN _) (Nat.add_assoc _ _ _))⟩))); try go_wp2_with (first | (go_at_call 33; (with_reducible refine (berthref02_Check.calls kj4 _ _ l2 t404 _ ?side1 ?side2 A10.out).mono ?_); (case side1 => repeat (first | exact HR2.out | (with_reducible refine Kd.C_alloc ?_ _) | (with_reducible refine Kd.C_drewN ?_ _) | (with_reducible refine Kd.C_drew ?_))); (case side2 => exact HC2.out); rintro e w' ⟨rfl, ⟨nd, rfl⟩⟩; (try first | exact ⟨rfl, _, World.drewN_drewN _ _ _⟩ | exact ⟨rfl, _, Eq.trans (World.drewN_drewN _ _ _) (congrArg (World.drewN _) (Nat.add_assoc _ _ _))⟩))))
     go_meet
     case rel => exact ⟨_, (t404), (by first | rfl | (simp; done) | (simp [*]; done) | (simp only [i64_w]; done) | (simp [i64_w, Int.tdiv_eq_ediv_of_nonneg]; done)), H', ⟨by have := HJ4.out; first | omega | exact Nat.le_refl _⟩, by repeat (first | exact Drawn0.refl _ | apply Drawn0.step)⟩
    ·
     rw [if_neg c9] at H
     have c9b0 : (x8_4 == 0) = false := beq_eq_false_iff_ne.mpr c9
     have c9b1 : (x8_4 != 0) = true := bne_iff_ne.mpr c9
     (first | rw [c9b0] | (simp only [i64_w, i32_w]; rw [c9b0]) | skip)
     have H' := Aside0.mk H
     clear H
     go_wp2
     repeat (go_quiet (fail); try go_wp2)
     go_meet
     case rel => exact ⟨_, (x8_4), (by first | rfl | (simp; done) | (simp [*]; done) | (simp only [i64_w]; done) | (simp [i64_w, Int.tdiv_eq_ediv_of_nonneg]; done)), H', ⟨by have := HJ4.out; first | omega | exact Nat.le_refl _⟩, by repeat (first | exact Drawn0.refl _ | apply Drawn0.step)⟩
   case rest =>
    clear HC8
    try clear c1
    try clear c2
    try clear p2
    try clear c3
    try clear c4
    try clear c6
    try clear c6b0
    try clear c6b1
    try clear c9
    try clear c9b0
    try clear c9b1
    try clear p2
    obtain ⟨kq, x8_7, rfl, HA, HJ7, ⟨mc7, rfl⟩⟩ := hcut
    cases kq with
    | zero => exact absurd HA.out (by simp [berthref02_Short.j1])
    | succ kj7 =>
     have H := HA.out
     clear HA
     simp only [berthref02_Short.j1] at H
     by_cases c11 : x8_7 = 0
     ·
      rw [if_pos c11] at H
      have c11b0 : (x8_7 == 0) = true := beq_iff_eq.mpr c11
      have c11b1 : (x8_7 != 0) = false := bne_eq_false_iff_eq.mpr c11
      clear c11
      have H' := Aside0.mk H
      clear H
      go_wp2
      repeat (go_quiet (fail); try go_wp2)
      go_loopg [9] kj7 (fun kq v9 w' => ∃ (x9_3 : Int), v9 = .int .i64 x9_3 ∧ Aside0 (berthref02_Short.l0 kq l0 l1 l2 x9_3 = some (r1, r2)) ∧ Aside0 (kq ≤ kj7) ∧ Drawn0 w w')
      case atStart => exact ⟨(0), (by first | rfl | (simp; done) | (simp [*]; done) | (simp only [i64_w]; done) | (simp [i64_w, Int.tdiv_eq_ediv_of_nonneg]; done)), H', ⟨Nat.le_refl _⟩, by repeat (first | exact Drawn0.refl _ | apply Drawn0.step)⟩
      case round =>
       clear H'
       try clear c1
       try clear c2
       try clear p2
       try clear c3
       try clear c4
       try clear c6
       try clear c6b0
       try clear c6b1
       try clear c7
       try clear c9
       try clear c9b0
       try clear c9b1
       try clear c11
       try clear c11b0
       try clear c11b1
       try clear p2
       obtain ⟨x9_3, rfl, HA, HK3, ⟨m3, rfl⟩⟩ := hrel
       cases gk with
       | zero => exact absurd HA.out (by simp [berthref02_Short.l0])
       | succ k3 =>
        have H := HA.out
        clear HA
        simp only [berthref02_Short.l0] at H
        by_cases c12 : x9_3 < (l0.length : Int)
        ·
         rw [if_pos c12] at H
         have c12b0 : decide (x9_3 < (l0.length : Int)) = true := decide_eq_true c12
         clear c12
         by_cases c13 : 0 ≤ x9_3
         ·
          rw [if_pos c13] at H
          have c13b0 : decide (0 ≤ x9_3) = true := decide_eq_true c13
          clear c13
          replace H := Option.bind_eq_some_iff.mp H
          obtain ⟨t406, A140, H⟩ := H
          replace H : ((berthref02_Get.f k3 l2 ((rd_T28 l0 x9_3).f0)).bind fun t408 => (if (wrap64 (t406 - t408)) < ((rd_T28 l0 x9_3).f1) then (some ((rd_T28 l0 x9_3).f0, 29)) else (berthref02_Short.l0 k3 l0 l1 l2 (wrap64 (x9_3 + 1))))) = some (r1, r2) := H
          have A14 := Aside0.mk A140
          clear A140
          replace H := Option.bind_eq_some_iff.mp H
          obtain ⟨t408, A150, H⟩ := H
          replace H : (if (wrap64 (t406 - t408)) < ((rd_T28 l0 x9_3).f1) then (some ((rd_T28 l0 x9_3).f0, 29)) else (berthref02_Short.l0 k3 l0 l1 l2 (wrap64 (x9_3 + 1)))) = some (r1, r2) := H
          have A15 := Aside0.mk A150
          clear A150
          by_cases c16 : (wrap64 (t406 - t408)) < ((rd_T28 l0 x9_3).f1)
          ·
           rw [if_pos c16] at H
           have c16b0 : decide ((wrap64 (t406 - t408)) < ((rd_T28 l0 x9_3).f1)) = true := decide_eq_true c16
           (try (have c16b1 : decide ((IntKind.i64.wrap (t406 - t408)) < ((rd_T28 l0 x9_3).f1)) = true := by have h_ : decide ((wrap64 (t406 - t408)) < ((rd_T28 l0 x9_3).f1)) = true := decide_eq_true c16; simp only [i64_w]; exact h_))
           clear c16
           simp only [Option.some.injEq, Prod.mk.injEq] at H
           obtain ⟨rfl, rfl⟩ := H
           have p405 : 0 ≤ (x9_3 : Int) := of_decide_eq_true (by first | (with_reducible assumption) | assumption)
           have q405 : x9_3 < (l0.length : Int) := of_decide_eq_true (by first | (with_reducible assumption) | assumption)
           obtain ⟨ad405, e405, hx405_0, hx405_1⟩ := at_T28 HR0.out x9_3 p405 q405
           cases e405
           replace p405 := eq_true p405
           replace q405 := eq_true q405
           go_wp2_with (first | (go_at_call 35; (with_reducible refine (berthref02_Get.calls k3 _ _ l1 ((rd_T28 l0 x9_3).f0) t406 _ ?side1 ?side2 A14.out).mono ?_); (case side1 => repeat (first | exact HR1.out | (with_reducible refine Kd.C_alloc ?_ _) | (with_reducible refine Kd.C_drewN ?_ _) | (with_reducible refine Kd.C_drew ?_))); (case side2 => exact HC1.out); rintro e w' ⟨rfl, ⟨nd, rfl⟩⟩; (try first | exact ⟨rfl, _, World.drewN_drewN _ _ _⟩ | exact ⟨rfl, _, Eq.trans (World.drewN_drewN _ _ _) (congrArg (World.drewN _) (Nat.add_assoc _ _ _))⟩); have p407 : 0 ≤ (x9_3 : Int) := of_decide_eq_true (by first | (with_reducible assumption) | assumption); have q407 : x9_3 < (l0.length : Int) := of_decide_eq_true (by first | (with_reducible assumption) | assumption); obtain ⟨ad407, e407, hx407_0, hx407_1⟩ := at_T28 HR0.out x9_3 p407 q407; obtain rfl : ad405 = ad407 := (by injection e407); replace p407 := eq_true p407; replace q407 := eq_true q407) | (go_at_call 35; (with_reducible refine (berthref02_Get.calls k3 _ _ l2 ((rd_T28 l0 x9_3).f0) t408 _ ?side1 ?side2 A15.out).mono ?_); (case side1 => repeat (first | exact HR2.out | (with_reducible refine Kd.C_alloc ?_ _) | (with_reducible refine Kd.C_drewN ?_ _) | (with_reducible refine Kd.C_drew ?_))); (case side2 => exact HC2.out); rintro e w' ⟨rfl, ⟨nd, rfl⟩⟩; (try first | exact ⟨rfl, _, World.drewN_drewN _ _ _⟩ | exact ⟨rfl, _, Eq.trans (World.drewN_drewN _ _ _) (congrArg (World.drewN _) (Nat.add_assoc _ _ _))⟩); have p409 : 0 ≤ (x9_3 : Int) := of_decide_eq_true (by first | (with_reducible assumption) | assumption); have q409 : x9_3 < (l0.length : Int) := of_decide_eq_true (by first | (with_reducible assumption) | assumption); obtain ⟨ad409, e409, hx409_0, hx409_1⟩ := at_T28 HR0.out x9_3 p409 q409; obtain rfl : ad405 = ad409 := (by injection e409); replace p409 := eq_true p409; replace q409 := eq_true q409; have p410 : 0 ≤ (x9_3 : Int) := of_decide_eq_true (by first | (with_reducible assumption) | assumption); have q410 : x9_3 < (l0.length : Int) := of_decide_eq_true (by first | (with_reducible assumption) | assumption); obtain ⟨ad410, e410, hx410_0, hx410_1⟩ := at_T28 HR0.out x9_3 p410 q410; obtain rfl : ad405 = ad410 := (by injection e410); replace p410 := eq_true p410; replace q410 := eq_true q410))
           repeat (go_quiet (first | (go_at_call 35; (with_reducible refine (berthref02_Get.calls k3 _ _ l1 ((rd_T28 l0 x9_3).f0) t406 _ ?side1 ?side2 A14.out).mono ?_); (case side1 => repeat (first | exact HR1.out | (with_reducible refine Kd.C_alloc ?_ _) | (with_reducible refine Kd.C_drewN ?_ _) | (with_reducible refine Kd.C_drew ?_))); (case side2 => exact HC1.out); rintro e w' ⟨rfl, ⟨nd, rfl⟩⟩; (try first | exact ⟨rfl, _, World.drewN_drewN _ _ _⟩ | exact ⟨rfl, _, Eq.trans (World.drewN_drewN _ _ _) (congrArg (World.drewN _) (Nat.add_assoc _ _ _))⟩); have p407 : 0 ≤ (x9_3 : Int) := of_decide_eq_true (by first | (with_reducible assumption) | assumption); have q407 : x9_3 < (l0.length : Int) := of_decide_eq_true (by first | (with_reducible assumption) | assumption); obtain ⟨ad407, e407, hx407_0, hx407_1⟩ := at_T28 HR0.out x9_3 p407 q407; obtain rfl : ad405 = ad407 := (by injection e407); replace p407 := eq_true p407; replace q407 := eq_true q407) | (go_at_call 35; (with_reducible refine (berthref02_Get.calls k3 _ _ l2 ((rd_T28 l0 x9_3).f0) t408 _ ?side1 ?side2 A15.out).mono ?_); (case side1 => repeat (first | exact HR2.out | (with_reducible refine Kd.C_alloc ?_ _) | (with_reducible refine Kd.C_drewN ?_ _) | (with_reducible refine Kd.C_drew ?_))); (case side2 => exact HC2.out); rintro e w' ⟨rfl, ⟨nd, rfl⟩⟩; (try first | exact ⟨rfl, _, World.drewN_drewN _ _ _⟩ | exact ⟨rfl, _, Eq.trans (World.drewN_drewN _ _ _) (congrArg (World.drewN _) (Nat.add_assoc _ _ _))⟩); have p409 : 0 ≤ (x9_3 : Int) := of_decide_eq_true (by first | (with_reducible assumption) | assumption); have q409 : x9_3 < (l0.length : Int) := of_decide_eq_true (by first | (with_reducible assumption) | assumption); obtain ⟨ad409, e409, hx409_0, hx409_1⟩ := at_T28 HR0.out x9_3 p409 q409; obtain rfl : ad405 = ad409 := (by injection e409); replace p409 := eq_true p409; replace q409 := eq_true q409; have p410 : 0 ≤ (x9_3 : Int) := of_decide_eq_true (by first | (with_reducible assumption) | assumption); have q410 : x9_3 < (l0.length : Int) := of_decide_eq_true (by first | (with_reducible assumption) | assumption); obtain ⟨ad410, e410, hx410_0, hx410_1⟩ := at_T28 HR0.out x9_3 p410 q410; obtain rfl : ad405 = ad410 := (by injection e410); replace p410 := eq_true p410; replace q410 := eq_true q410)); try go_wp2_with (first | (go_at_call 35; (with_reducible refine (berthref02_Get.calls k3 _ _ l1 ((rd_T28 l0 x9_3).f0) t406 _ ?side1 ?side2 A14.out).mono ?_); (case side1 => repeat (first | exact HR1.out | (with_reducible refine Kd.C_alloc ?_ _) | (with_reducible refine Kd.C_drewN ?_ _) | (with_reducible refine Kd.C_drew ?_))); (case side2 => exact HC1.out); rintro e w' ⟨rfl, ⟨nd, rfl⟩⟩; (try first | exact ⟨rfl, _, World.drewN_drewN _ _ _⟩ | exact ⟨rfl, _, Eq.trans (World.drewN_drewN _ _ _) (congrArg (World.drewN _) (Nat.add_assoc _ _ _))⟩); have p407 : 0 ≤ (x9_3 : Int) := of_decide_eq_true (by first | (with_reducible assumption) | assumption); have q407 : x9_3 < (l0.length : Int) := of_decide_eq_true (by first | (with_reducible assumption) | assumption); obtain ⟨ad407, e407, hx407_0, hx407_1⟩ := at_T28 HR0.out x9_3 p407 q407; obtain rfl : ad405 = ad407 := (by injection e407); replace p407 := eq_true p407; replace q407 := eq_true q407) | (go_at_call 35; (with_reducible refine (berthref02_Get.calls k3 _ _ l2 ((rd_T28 l0 x9_3).f0) t408 _ ?side1 ?side2 A15.out).mono ?_); (case side1 => repeat (first | exact HR2.out | (with_reducible refine Kd.C_alloc ?_ _) | (with_reducible refine Kd.C_drewN ?_ _) | (with_reducible refine Kd.C_drew ?_))); (case side2 => exact HC2.out); rintro e w' ⟨rfl, ⟨nd, rfl⟩⟩; (try first | exact ⟨rfl, _, World.drewN_drewN _ _ _⟩ | exact ⟨rfl, _, Eq.trans (World.drewN_drewN _ _ _) (congrArg (World.drewN _) (Nat.add_assoc _ _ _))⟩); have p409 : 0 ≤ (x9_3 : Int) := of_decide_eq_true (by first | (with_reducible assumption) | assumption); have q409 : x9_3 < (l0.length : Int) := of_decide_eq_true (by first | (with_reducible assumption) | assumption); obtain ⟨ad409, e409, hx409_0, hx409_1⟩ := at_T28 HR0.out x9_3 p409 q409; obtain rfl : ad405 = ad409 := (by injection e409); replace p409 := eq_true p409; replace q409 := eq_true q409; have p410 : 0 ≤ (x9_3 : Int) := of_decide_eq_true (by first | (with_reducible assumption) | assumption); have q410 : x9_3 < (l0.length : Int) := of_decide_eq_true (by first | (with_reducible assumption) | assumption); obtain ⟨ad410, e410, hx410_0, hx410_1⟩ := at_T28 HR0.out x9_3 p410 q410; obtain rfl : ad405 = ad410 := (by injection e410); replace p410 := eq_true p410; replace q410 := eq_true q410)))
           go_ret2
           exact ⟨by first | rfl | (simp; done) | (simp [*]; done) | (simp only [i64_w]; done) | (simp [i64_w, Int.tdiv_eq_ediv_of_nonneg]; done), by repeat (first | exact Drawn0.refl _ | apply Drawn0.step)⟩
          ·
           rw [if_neg c16] at H
           have c16b0 : decide ((wrap64 (t406 - t408)) < ((rd_T28 l0 x9_3).f1)) = false := decide_eq_false c16
           (try (have c16b1 : decide ((IntKind.i64.wrap (t406 - t408)) < ((rd_T28 l0 x9_3).f1)) = false := by have h_ : decide ((wrap64 (t406 - t408)) < ((rd_T28 l0 x9_3).f1)) = false := decide_eq_false c16; simp only [i64_w]; exact h_))
           clear c16
           have H' := Aside0.mk H
           clear H
           have p405 : 0 ≤ (x9_3 : Int) := of_decide_eq_true (by first | (with_reducible assumption) | assumption)
           have q405 : x9_3 < (l0.length : Int) := of_decide_eq_true (by first | (with_reducible assumption) | assumption)
           obtain ⟨ad405, e405, hx405_0, hx405_1⟩ := at_T28 HR0.out x9_3 p405 q405
           cases e405
           replace p405 := eq_true p405
           replace q405 := eq_true q405
           go_wp2_with (first | (go_at_call 35; (with_reducible refine (berthref02_Get.calls k3 _ _ l1 ((rd_T28 l0 x9_3).f0) t406 _ ?side1 ?side2 A14.out).mono ?_); (case side1 => repeat (first | exact HR1.out | (with_reducible refine Kd.C_alloc ?_ _) | (with_reducible refine Kd.C_drewN ?_ _) | (with_reducible refine Kd.C_drew ?_))); (case side2 => exact HC1.out); rintro e w' ⟨rfl, ⟨nd, rfl⟩⟩; (try first | exact ⟨rfl, _, World.drewN_drewN _ _ _⟩ | exact ⟨rfl, _, Eq.trans (World.drewN_drewN _ _ _) (congrArg (World.drewN _) (Nat.add_assoc _ _ _))⟩); have p407 : 0 ≤ (x9_3 : Int) := of_decide_eq_true (by first | (with_reducible assumption) | assumption); have q407 : x9_3 < (l0.length : Int) := of_decide_eq_true (by first | (with_reducible assumption) | assumption); obtain ⟨ad407, e407, hx407_0, hx407_1⟩ := at_T28 HR0.out x9_3 p407 q407; obtain rfl : ad405 = ad407 := (by injection e407); replace p407 := eq_true p407; replace q407 := eq_true q407) | (go_at_call 35; (with_reducible refine (berthref02_Get.calls k3 _ _ l2 ((rd_T28 l0 x9_3).f0) t408 _ ?side1 ?side2 A15.out).mono ?_); (case side1 => repeat (first | exact HR2.out | (with_reducible refine Kd.C_alloc ?_ _) | (with_reducible refine Kd.C_drewN ?_ _) | (with_reducible refine Kd.C_drew ?_))); (case side2 => exact HC2.out); rintro e w' ⟨rfl, ⟨nd, rfl⟩⟩; (try first | exact ⟨rfl, _, World.drewN_drewN _ _ _⟩ | exact ⟨rfl, _, Eq.trans (World.drewN_drewN _ _ _) (congrArg (World.drewN _) (Nat.add_assoc _ _ _))⟩); have p409 : 0 ≤ (x9_3 : Int) := of_decide_eq_true (by first | (with_reducible assumption) | assumption); have q409 : x9_3 < (l0.length : Int) := of_decide_eq_true (by first | (with_reducible assumption) | assumption); obtain ⟨ad409, e409, hx409_0, hx409_1⟩ := at_T28 HR0.out x9_3 p409 q409; obtain rfl : ad405 = ad409 := (by injection e409); replace p409 := eq_true p409; replace q409 := eq_true q409))
           repeat (go_quiet (first | (go_at_call 35; (with_reducible refine (berthref02_Get.calls k3 _ _ l1 ((rd_T28 l0 x9_3).f0) t406 _ ?side1 ?side2 A14.out).mono ?_); (case side1 => repeat (first | exact HR1.out | (with_reducible refine Kd.C_alloc ?_ _) | (with_reducible refine Kd.C_drewN ?_ _) | (with_reducible refine Kd.C_drew ?_))); (case side2 => exact HC1.out); rintro e w' ⟨rfl, ⟨nd, rfl⟩⟩; (try first | exact ⟨rfl, _, World.drewN_drewN _ _ _⟩ | exact ⟨rfl, _, Eq.trans (World.drewN_drewN _ _ _) (congrArg (World.drewN _) (Nat.add_assoc _ _ _))⟩); have p407 : 0 ≤ (x9_3 : Int) := of_decide_eq_true (by first | (with_reducible assumption) | assumption); have q407 : x9_3 < (l0.length : Int) := of_decide_eq_true (by first | (with_reducible assumption) | assumption); obtain ⟨ad407, e407, hx407_0, hx407_1⟩ := at_T28 HR0.out x9_3 p407 q407; obtain rfl : ad405 = ad407 := (by injection e407); replace p407 := eq_true p407; replace q407 := eq_true q407) | (go_at_call 35; (with_reducible refine (berthref02_Get.calls k3 _ _ l2 ((rd_T28 l0 x9_3).f0) t408 _ ?side1 ?side2 A15.out).mono ?_); (case side1 => repeat (first | exact HR2.out | (with_reducible refine Kd.C_alloc ?_ _) | (with_reducible refine Kd.C_drewN ?_ _) | (with_reducible refine Kd.C_drew ?_))); (case side2 => exact HC2.out); rintro e w' ⟨rfl, ⟨nd, rfl⟩⟩; (try first | exact ⟨rfl, _, World.drewN_drewN _ _ _⟩ | exact ⟨rfl, _, Eq.trans (World.drewN_drewN _ _ _) (congrArg (World.drewN _) (Nat.add_assoc _ _ _))⟩); have p409 : 0 ≤ (x9_3 : Int) := of_decide_eq_true (by first | (with_reducible assumption) | assumption); have q409 : x9_3 < (l0.length : Int) := of_decide_eq_true (by first | (with_reducible assumption) | assumption); obtain ⟨ad409, e409, hx409_0, hx409_1⟩ := at_T28 HR0.out x9_3 p409 q409; obtain rfl : ad405 = ad409 := (by injection e409); replace p409 := eq_true p409; replace q409 := eq_true q409)); try go_wp2_with (first | (go_at_call 35; (with_reducible refine (berthref02_Get.calls k3 _ _ l1 ((rd_T28 l0 x9_3).f0) t406 _ ?side1 ?side2 A14.out).mono ?_); (case side1 => repeat (first | exact HR1.out | (with_reducible refine Kd.C_alloc ?_ _) | (with_reducible refine Kd.C_drewN ?_ _) | (with_reducible refine Kd.C_drew ?_))); (case side2 => exact HC1.out); rintro e w' ⟨rfl, ⟨nd, rfl⟩⟩; (try first | exact ⟨rfl, _, World.drewN_drewN _ _ _⟩ | exact ⟨rfl, _, Eq.trans (World.drewN_drewN _ _ _) (congrArg (World.drewN _) (Nat.add_assoc _ _ _))⟩); have p407 : 0 ≤ (x9_3 : Int) := of_decide_eq_true (by first | (with_reducible assumption) | assumption); have q407 : x9_3 < (l0.length : Int) := of_decide_eq_true (by first | (with_reducible assumption) | assumption); obtain ⟨ad407, e407, hx407_0, hx407_1⟩ := at_T28 HR0.out x9_3 p407 q407; obtain rfl : ad405 = ad407 := (by injection e407); replace p407 := eq_true p407; replace q407 := eq_true q407) | (go_at_call 35; (with_reducible refine (berthref02_Get.calls k3 _ _ l2 ((rd_T28 l0 x9_3).f0) t408 _ ?side1 ?side2 A15.out).mono ?_); (case side1 => repeat (first | exact HR2.out | (with_reducible refine Kd.C_alloc ?_ _) | (with_reducible refine Kd.C_drewN ?_ _) | (with_reducible refine Kd.C_drew ?_))); (case side2 => exact HC2.out); rintro e w' ⟨rfl, ⟨nd, rfl⟩⟩; (try first | exact ⟨rfl, _, World.drewN_drewN _ _ _⟩ | exact ⟨rfl, _, Eq.trans (World.drewN_drewN _ _ _) (congrArg (World.drewN _) (Nat.add_assoc _ _ _))⟩); have p409 : 0 ≤ (x9_3 : Int) := of_decide_eq_true (by first | (with_reducible assumption) | assumption); have q409 : x9_3 < (l0.length : Int) := of_decide_eq_true (by first | (with_reducible assumption) | assumption); obtain ⟨ad409, e409, hx409_0, hx409_1⟩ := at_T28 HR0.out x9_3 p409 q409; obtain rfl : ad405 = ad409 := (by injection e409); replace p409 := eq_true p409; replace q409 := eq_true q409)))
           go_roundg k3
           case measure => have := HJ4.out; have := HJ7.out; have := HK3.out; omega
           case rel => exact ⟨(wrap64 (x9_3 + 1)), (by first | rfl | (simp; done) | (simp [*]; done) | (simp only [i64_w]; done) | (simp [i64_w, Int.tdiv_eq_ediv_of_nonneg]; done)), H', ⟨by have := HJ4.out; have := HJ7.out; have := HK3.out; omega⟩, by repeat (first | exact Drawn0.refl _ | apply Drawn0.step)⟩
         ·
          rw [if_neg c13] at H
          exact absurd H (by simp)
        ·
         rw [if_neg c12] at H
         have c12b0 : decide (x9_3 < (l0.length : Int)) = false := decide_eq_false c12
         clear c12
         simp only [Option.some.injEq, Prod.mk.injEq] at H
         obtain ⟨rfl, rfl⟩ := H
         go_wp2
         repeat (go_quiet (fail); try go_wp2)
         go_ret2
         exact ⟨by first | rfl | (simp; done) | (simp [*]; done) | (simp only [i64_w]; done) | (simp [i64_w, Int.tdiv_eq_ediv_of_nonneg]; done), by repeat (first | exact Drawn0.refl _ | apply Drawn0.step)⟩
     ·
      rw [if_neg c11] at H
      have c11b0 : (x8_7 == 0) = false := beq_eq_false_iff_ne.mpr c11
      have c11b1 : (x8_7 != 0) = true := bne_iff_ne.mpr c11
      simp only [Option.some.injEq, Prod.mk.injEq] at H
      obtain ⟨rfl, rfl⟩ := H
      go_wp2
      repeat (go_quiet (fail); try go_wp2)
      go_ret2
      exact ⟨by first | rfl | (simp; done) | (simp [*]; done) | (simp only [i64_w]; done) | (simp [i64_w, Int.tdiv_eq_ediv_of_nonneg]; done), by repeat (first | exact Drawn0.refl _ | apply Drawn0.step)⟩
end Go.Proofs.Ytbibnendaddbhaa.All
