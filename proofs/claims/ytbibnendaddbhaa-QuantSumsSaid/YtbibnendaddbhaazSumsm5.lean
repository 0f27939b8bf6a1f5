/- A part of the proof of QuantSums: walks written by a program of this session. -/
import Derived.Test.YtbibnendaddbhaazSumsm0
import Derived.Test.YtbibnendaddbhaazSumsm1
import Derived.Test.YtbibnendaddbhaazSumsm2
import Derived.Test.YtbibnendaddbhaazSumsm3
import Derived.Test.YtbibnendaddbhaazSumsm4
namespace Go.Proofs.Ytbibnendaddbhaa.All
open Go.RowKit Go.Proofs.YtbibnendaddbhaaW.PrintWords Go.Proofs.YtbibnendaddbhaaW.PrintLast Go.Proofs.YtbibnendaddbhaaW.PrintMore
attribute [local go_sem] max2_int min2_int max_two min_two max_three min_three max_four min_four
attribute [local go_sem] Go.Proofs.YtbibnendaddbhaaX.binOp_leq Go.Proofs.YtbibnendaddbhaaX.binOp_geq Go.Proofs.YtbibnendaddbhaaX.binOp_gtr
set_option linter.unusedVariables false
set_option linter.unusedSimpArgs false
attribute [local go_sem high] eqA28
def quant_Add.l0 : Nat → List (S28) → List (S28) → List (S28) → List ByteArray → Int → Int → Option ((List (S28)) × ByteArray × Int)
  | 0, _, _, _, _, _, _ => none
  | k + 1, x0, x1, x9, x32, x33, x34 => if x34 < x33 then (if 0 ≤ x34 then (if x34 < (x32.length : Int) then ((quant_Get.f k x0 (rdOf ByteArray.empty x32 x34)).bind fun t239 => ((quant_Get.f k x1 (rdOf ByteArray.empty x32 x34)).bind fun t240 => (if t239 > (wrap64 (9223372036854775807 - t240)) then (some (([] : List (S28)), rdOf ByteArray.empty x32 x34, 28)) else (if x9.length < 5864062014805 then (quant_Add.l0 k x0 x1 (x9 ++ [(⟨rdOf ByteArray.empty x32 x34, wrap64 (t239 + t240)⟩ : S28)]) x32 x33 (wrap64 (x34 + 1))) else (none))))) else (none)) else (none)) else (some (x9, (⟨#[]⟩ : ByteArray), 0))
def quant_Add.f (k : Nat) (l0 : List (S28)) (l1 : List (S28)) : Option ((List (S28)) × ByteArray × Int) := (quant_Check.f k l0).bind fun t226 => ((quant_Check.f k l1).bind fun t227 => ((api_Errno.f k (([t226, t227] : List Int))).bind fun t231 => (if t231 = 0 then ((quant_both.f k l0 l1).bind fun t232 => (if (t232.length : Int) > 16 then (some (([] : List (S28)), (⟨#[]⟩ : ByteArray), 27)) else (if 0 ≤ (t232.length : Int) then (if ((t232.length : Int) : Int).toNat ≤ 11728124029610 then (quant_Add.l0 k l0 l1 (([] : List (S28))) t232 (t232.length : Int) 0) else (none)) else (none)))) else (some (([] : List (S28)), (⟨#[]⟩ : ByteArray), t231)))))
theorem quant_Add.mono_l : ∀ k, (∀ y0 y1 y2 y3 y4 y5, LeO (quant_Add.l0 k y0 y1 y2 y3 y4 y5) (quant_Add.l0 (k + 1) y0 y1 y2 y3 y4 y5))
  | 0 => fun _ _ _ _ _ _ r h => by simp [quant_Add.l0] at h
  | k + 1 => by
    have ih0 := quant_Add.mono_l k
    · intro y0 y1 y2 y3 y4 y5
      unfold quant_Add.l0
      repeat' first
      | (with_reducible exact ih0 _ _ _ _ _ _)
      | (with_reducible exact api_Errno.mono _ _)
      | (with_reducible exact quant_Check.mono _ _)
      | (with_reducible exact quant_Get.mono _ _ _)
      | (with_reducible exact quant_both.mono _ _ _)
      | (with_reducible exact LeO.refl _)
      | (with_reducible exact LeO.none _)
      | (with_reducible refine LeO.ite ?_ ?_)
      | (with_reducible refine LeO.bind ?_ (fun _ => ?_))
      | exact ih0 _ _ _ _ _ _
      | exact api_Errno.mono _ _
      | exact quant_Check.mono _ _
      | exact quant_Get.mono _ _ _
      | exact quant_both.mono _ _ _
      | exact LeO.none _
      | refine LeO.ite ?_ ?_
      | refine LeO.bind ?_ (fun _ => ?_)
theorem quant_Add.mono : ∀ a0 a1 k, LeO (quant_Add.f k a0 a1) (quant_Add.f (k + 1) a0 a1) := by
  intro a0 a1 k
  have ih0 := quant_Add.mono_l k
  unfold quant_Add.f
  repeat' first
      | (with_reducible exact ih0 _ _ _ _ _ _)
      | (with_reducible exact api_Errno.mono _ _)
      | (with_reducible exact quant_Check.mono _ _)
      | (with_reducible exact quant_Get.mono _ _ _)
      | (with_reducible exact quant_both.mono _ _ _)
      | (with_reducible exact LeO.refl _)
      | (with_reducible exact LeO.none _)
      | (with_reducible refine LeO.ite ?_ ?_)
      | (with_reducible refine LeO.bind ?_ (fun _ => ?_))
      | exact ih0 _ _ _ _ _ _
      | exact api_Errno.mono _ _
      | exact quant_Check.mono _ _
      | exact quant_Get.mono _ _ _
      | exact quant_both.mono _ _ _
      | exact LeO.none _
      | refine LeO.ite ?_ ?_
      | refine LeO.bind ?_ (fun _ => ?_)
set_option maxHeartbeats 8000000 in
set_option maxRecDepth 100000 in
theorem quant_Add.calls (k : Nat) (A0 : Option Addr) (c0 : Nat) (l0 : List (S28)) (A1 : Option Addr) (c1 : Nat) (l1 : List (S28)) (r1 : List (S28)) (r2 : ByteArray) (r3 : Int) (w : World) (hr0 : Kd.C k28 w A0 l0.length l0) (hc0 : l0.length ≤ c0) (hr1 : Kd.C k28 w A1 l1.length l1) (hc1 : l1.length ≤ c1) (h : quant_Add.f k l0 l1 = some (r1, r2, r3)) :
 Calls Try.prog 20 #[.slice A0 l0.length c0, .slice A1 l1.length c1] w fun e w' => ∃ v0_ : Value, e = .returned (.tuple #[v0_, .string r2, .int .i64 r3]) ∧ Kd.R k28 28 w' w.heap.size (fun _ => True) v0_ r1 ∧ Below w.heap.size w w' := by
 have hu28 := Try.underlying28
 have HR0 := Aside0.mk hr0
 have HC0 := Aside0.mk hc0
 clear hr0 hc0
 have HR1 := Aside0.mk hr1
 have HC1 := Aside0.mk hc1
 clear hr1 hc1
 have HB := Aside0.mk (Below.refl w.heap.size w)
 have H : ((quant_Check.f k l0).bind fun t226 => ((quant_Check.f k l1).bind fun t227 => ((api_Errno.f k (([t226, t227] : List Int))).bind fun t231 => (if t231 = 0 then ((quant_both.f k l0 l1).bind fun t232 => (if (t232.length : Int) > 16 then (some (([] : List (S28)), (⟨#[]⟩ : ByteArray), 27)) else (if 0 ≤ (t232.length : Int) then (if ((t232.length : Int) : Int).toNat ≤ 11728124029610 then (quant_Add.l0 k l0 l1 (([] : List (S28))) t232 (t232.length : Int) 0) else (none)) else (none)))) else (some (([] : List (S28)), (⟨#[]⟩ : ByteArray), t231)))))) = some (r1, r2, r3) := h
 clear h
 replace H := Option.bind_eq_some_iff.mp H
 obtain ⟨t226, A30, H⟩ := H
 replace H : ((quant_Check.f k l1).bind fun t227 => ((api_Errno.f k (([t226, t227] : List Int))).bind fun t231 => (if t231 = 0 then ((quant_both.f k l0 l1).bind fun t232 => (if (t232.length : Int) > 16 then (some (([] : List (S28)), (⟨#[]⟩ : ByteArray), 27)) else (if 0 ≤ (t232.length : Int) then (if ((t232.length : Int) : Int).toNat ≤ 11728124029610 then (quant_Add.l0 k l0 l1 (([] : List (S28))) t232 (t232.length : Int) 0) else (none)) else (none)))) else (some (([] : List (S28)), (⟨#[]⟩ : ByteArray), t231))))) = some (r1, r2, r3) := H
 have A3 := Aside0.mk A30
 clear A30
 replace H := Option.bind_eq_some_iff.mp H
 obtain ⟨t227, A40, H⟩ := H
 replace H : ((api_Errno.f k (([t226, t227] : List Int))).bind fun t231 => (if t231 = 0 then ((quant_both.f k l0 l1).bind fun t232 => (if (t232.length : Int) > 16 then (some (([] : List (S28)), (⟨#[]⟩ : ByteArray), 27)) else (if 0 ≤ (t232.length : Int) then (if ((t232.length : Int) : Int).toNat ≤ 11728124029610 then (quant_Add.l0 k l0 l1 (([] : List (S28))) t232 (t232.length : Int) 0) else (none)) else (none)))) else (some (([] : List (S28)), (⟨#[]⟩ : ByteArray), t231)))) = some (r1, r2, r3) := H
 have A4 := Aside0.mk A40
 clear A40
 obtain ⟨y228, hy228⟩ : ∃ y_ : List Int, y_ = (([t226, t227] : List Int)) := ⟨_, rfl⟩
 replace H : ((api_Errno.f k y228).bind fun t231 => (if t231 = 0 then ((quant_both.f k l0 l1).bind fun t232 => (if (t232.length : Int) > 16 then (some (([] : List (S28)), (⟨#[]⟩ : ByteArray), 27)) else (if 0 ≤ (t232.length : Int) then (if ((t232.length : Int) : Int).toNat ≤ 11728124029610 then (quant_Add.l0 k l0 l1 (([] : List (S28))) t232 (t232.length : Int) 0) else (none)) else (none)))) else (some (([] : List (S28)), (⟨#[]⟩ : ByteArray), t231)))) = some (r1, r2, r3) := by first | (rw [hy228]; with_reducible exact H) | (have H2_ := (Option.bind_some _ _).symm.trans H; rw [hy228]; with_reducible exact H2_) | (have H2_ := (Option.bind_some _ _).symm.trans H; with_reducible exact H2_) | with_reducible exact H | (rw [hy228]; exact H) | exact H
 have Ny228 := Aside0.mk hy228
 clear hy228
 replace H := Option.bind_eq_some_iff.mp H
 obtain ⟨t231, A50, H⟩ := H
 replace H : (if t231 = 0 then ((quant_both.f k l0 l1).bind fun t232 => (if (t232.length : Int) > 16 then (some (([] : List (S28)), (⟨#[]⟩ : ByteArray), 27)) else (if 0 ≤ (t232.length : Int) then (if ((t232.length : Int) : Int).toNat ≤ 11728124029610 then (quant_Add.l0 k l0 l1 (([] : List (S28))) t232 (t232.length : Int) 0) else (none)) else (none)))) else (some (([] : List (S28)), (⟨#[]⟩ : ByteArray), t231))) = some (r1, r2, r3) := H
 have A5 := Aside0.mk A50
 clear A50
 by_cases c6 : t231 = 0
 ·
  rw [if_pos c6] at H
  have c6b0 : (t231 == 0) = true := beq_iff_eq.mpr c6
  have c6b1 : (t231 != 0) = false := bne_eq_false_iff_eq.mpr c6
  clear c6
  replace H := Option.bind_eq_some_iff.mp H
  obtain ⟨t232, A70, H⟩ := H
  replace H : (if (t232.length : Int) > 16 then (some (([] : List (S28)), (⟨#[]⟩ : ByteArray), 27)) else (if 0 ≤ (t232.length : Int) then (if ((t232.length : Int) : Int).toNat ≤ 11728124029610 then (quant_Add.l0 k l0 l1 (([] : List (S28))) t232 (t232.length : Int) 0) else (none)) else (none))) = some (r1, r2, r3) := H
  have A7 := Aside0.mk A70
  clear A70
  by_cases c8 : (t232.length : Int) > 16
  ·
   rw [if_pos c8] at H
   have c8b0 : decide (16 < (t232.length : Int)) = true := decide_eq_true c8
   have c8b1 : decide (16 < t232.length) = true := decide_eq_true (by omega)
   clear c8
   simp only [Option.some.injEq, Prod.mk.injEq] at H
   obtain ⟨rfl, rfl, rfl⟩ := H
   go_enter Try.func20, Try.ntmps20
   go_wp2_with (first | ((with_reducible refine gate_callee (f := 11) rfl ?_); refine goesL_ (some 15) rfl rfl Try.func11 (by kernel_rfl) rfl #[.slice A0 l0.length c0] rfl (by (try simp only [List.map_toArray, List.map_cons, List.map_nil]); first | done | rfl | (simp only [List.length_drop, List.length_take]; rfl)) ?_; (with_reducible refine (quant_Check.calls k _ _ l0 t226 _ ?side1 ?side2 A3.out).mono ?_); (case side1 => repeat (first | exact HR0.out | (with_reducible refine Kd.C_alloc ?_ _) | (with_reducible refine Kd.C_drewN ?_ _) | (with_reducible refine Kd.C_drew ?_))); (case side2 => exact HC0.out); rintro e w9 ⟨rfl, hb⟩; refine ⟨_, rfl, ?_⟩; have n0_ := Aside0.mk (below_step (by repeat (first | (with_reducible first | exact HB.out | apply below_alloc | apply pw_below_drewN | apply below_drew1) | exact HB.out)) hb); clear HB; have HB := n0_; clear n0_; (try clear hb); (try clear hb2); (try clear hk); (try clear hi)) | ((with_reducible refine gate_callee (f := 11) rfl ?_); refine goesL_ (some 17) rfl rfl Try.func11 (by kernel_rfl) rfl #[.slice A1 l1.length c1] rfl (by (try simp only [List.map_toArray, List.map_cons, List.map_nil]); first | done | rfl | (simp only [List.length_drop, List.length_take]; rfl)) ?_; (with_reducible refine (quant_Check.calls k _ _ l1 t227 _ ?side1 ?side2 A4.out).mono ?_); (case side1 => repeat (first | exact (Kd.C_below HR1.out HB.out) | (with_reducible refine Kd.C_alloc ?_ _) | (with_reducible refine Kd.C_drewN ?_ _) | (with_reducible refine Kd.C_drew ?_))); (case side2 => exact HC1.out); rintro e w10 ⟨rfl, hb⟩; refine ⟨_, rfl, ?_⟩; have n0_ := Aside0.mk (below_step (by repeat (first | (with_reducible first | exact HB.out | apply below_alloc | apply pw_below_drewN | apply below_drew1) | exact HB.out)) hb); clear HB; have HB := n0_; clear n0_; (try clear hb); (try clear hb2); (try clear hk); (try clear hi)) | ((with_reducible refine gate_dst (N := 18) rfl ?_); refine Kd.R_lit (Kd.int .i64) _ 24 ?hg (N := 18) ?hd (xs := ([t226, t227] : List Int)) (inner := [.int .i64 t226, .int .i64 t227]) (ok := fun _ => True) (okp := fun _ => True) ?hr ?hp (fun _ hk => hk) trivial (Below.refl _ _) (Nat.le_refl _) (by simp) ?_; (case hd => rfl); (case hg => rfl); (case hr => first | (go_simp; done) | (go_simp; rfl)); (case hp => exact (Reps.one (show Kd.M (Kd.int .i64) _ _ _ t226 [.int .i64 t226] from rfl) (Reps.one (show Kd.M (Kd.int .i64) _ _ _ t227 [.int .i64 t227] from rfl) (Reps.none _ _)))); intro v229 w11 ho12 hb hg_ hnew_; clear hg_ hnew_; (first | rw [← Ny228.out] at ho12 | (simp only [Int.reduceToNat] at ho12; rw [← Ny228.out] at ho12)); have n0_ := Aside0.mk (Kd.R_lower ho12 (below_size (by repeat (first | (with_reducible first | exact HB.out | apply below_alloc | apply pw_below_drewN | apply below_drew1) | exact HB.out)))); have n1_ := Aside0.mk (below_step (by repeat (first | (with_reducible first | exact HB.out | apply below_alloc | apply pw_below_drewN | apply below_drew1) | exact HB.out)) hb); clear HB; have HO230 := n0_; have HB := n1_; clear n0_ n1_; clear hb ho12; obtain ⟨Ao13, co13, eo13⟩ := Kd.R_slice HO230.out; subst eo13) | ((with_reducible refine gate_callee (f := 24) rfl ?_); refine goesL_ (some 19) rfl rfl Try.func24 (by kernel_rfl) rfl #[.slice Ao13 y228.length co13] rfl (by (try simp only [List.map_toArray, List.map_cons, List.map_nil]); first | done | rfl | (simp only [List.length_drop, List.length_take]; rfl)) ?_; (with_reducible refine (api_Errno.calls k _ _ y228 t231 _ ?side1 ?side2 A5.out).mono ?_); (case side1 => repeat (first | exact (Kd.R_reads' HO230.out).2.2 | (with_reducible refine Kd.C_alloc ?_ _) | (with_reducible refine Kd.C_drewN ?_ _) | (with_reducible refine Kd.C_drew ?_))); (case side2 => exact (Kd.R_reads' HO230.out).2.1); rintro e w' ⟨rfl, ⟨nd, rfl⟩⟩; refine ⟨_, rfl, ?_⟩) | ((with_reducible refine gate_callee (f := 28) rfl ?_); refine goesL_ (some 25) rfl rfl Try.func28 (by kernel_rfl) rfl #[.slice A0 l0.length c0, .slice A1 l1.length c1] rfl (by (try simp only [List.map_toArray, List.map_cons, List.map_nil]); first | done | rfl | (simp only [List.length_drop, List.length_take]; rfl)) ?_; (with_reducible refine (quant_both.calls k (fun k_ => k_ < w.heap.size) _ _ l0 (fun k_ => k_ < w.heap.size) _ _ l1 t232 _ ?side1 ?side2 A7.out).mono ?_); (case side1 => exact Kd.V_mk HC0.out (Kd.F_below (Kd.C_F k28_heap HR0.out) (by repeat (first | (with_reducible first | exact HB.out | apply below_alloc | apply pw_below_drewN | apply below_drew1) | exact HB.out)))); (case side2 => exact Kd.V_mk HC1.out (Kd.F_below (Kd.C_F k28_heap HR1.out) (by repeat (first | (with_reducible first | exact HB.out | apply below_alloc | apply pw_below_drewN | apply below_drew1) | exact HB.out)))); rintro e w14 ⟨v233, rfl, ho0, hb⟩; refine ⟨_, rfl, ?_⟩; have n0_ := Aside0.mk (Kd.R_below (by (with_reducible repeat (first | apply Kd.R_alloc | apply Kd.R_drewN | apply Kd.R_drew)); exact HO230.out) hb); have n1_ := Aside0.mk (Kd.R_lower (Kd.R_mono (ok' := fun k_ => True) ho0 (fun _ hk_ => trivial)) (below_size (by repeat (first | (with_reducible first | exact HB.out | apply below_alloc | apply pw_below_drewN | apply below_drew1) | exact HB.out)))); have n2_ := Aside0.mk (below_step (by repeat (first | (with_reducible first | exact HB.out | apply below_alloc | apply pw_below_drewN | apply below_drew1) | exact HB.out)) hb); clear HO230; clear HB; have HO230 := n0_; have HO234 := n1_; have HB := n2_; clear n0_ n1_ n2_; (try clear hb); (try clear hb2); (try clear hk); (try clear hi); (try clear ho0); obtain ⟨Ao15, co15, eo15⟩ := Kd.R_slice HO234.out; subst eo15))
   go_ret3
   exact ⟨_, by first | rfl | (simp [errW_none, errW_some] <;> rfl) | (simp [*, errW_none, errW_some] <;> rfl), by first | exact Kd.R_nil _ _ _ _ _ | exact Kd.N_nil _ _ _ _ _ | exact Kd.V_nil _ _ _ _ _ | exact Kd.Q_nil _ _ _ _ _ | exact Kd.S_nil _ _ _ _ _, by repeat (first | (with_reducible first | exact HB.out | apply below_alloc | apply pw_below_drewN | apply below_drew1) | exact HB.out)⟩
  ·
   rw [if_neg c8] at H
   have c8b0 : decide (16 < (t232.length : Int)) = false := decide_eq_false c8
   have c8b1 : decide (16 < t232.length) = false := decide_eq_false (by omega)
   clear c8
   by_cases c16 : 0 ≤ (t232.length : Int)
   ·
    rw [if_pos c16] at H
    have c16b0 := eq_true c16
    have c16b1 : decide (0 ≤ (t232.length : Int)) = true := decide_eq_true c16
    clear c16
    by_cases c17 : ((t232.length : Int) : Int).toNat ≤ 11728124029610
    ·
     rw [if_pos c17] at H
     have c17b0 := eq_true c17
     have c17b1 : decide (((t232.length : Int) : Int).toNat ≤ 11728124029610) = true := decide_eq_true c17
     clear c17
     obtain ⟨y235, hy235⟩ : ∃ y_ : List (S28), y_ = (([] : List (S28))) := ⟨_, rfl⟩
     replace H : (quant_Add.l0 k l0 l1 y235 t232 (t232.length : Int) 0) = some (r1, r2, r3) := by first | (rw [hy235]; with_reducible exact H) | (have H2_ := (Option.bind_some _ _).symm.trans H; rw [hy235]; with_reducible exact H2_) | (have H2_ := (Option.bind_some _ _).symm.trans H; with_reducible exact H2_) | with_reducible exact H | (rw [hy235]; exact H) | exact H
     have Ny235 := Aside0.mk hy235
     clear hy235
     have H' := Aside0.mk H
     clear H
     go_enter Try.func20, Try.ntmps20
     go_wp2_with (first | ((with_reducible refine gate_callee (f := 11) rfl ?_); refine goesL_ (some 15) rfl rfl Try.func11 (by kernel_rfl) rfl #[.slice A0 l0.length c0] rfl (by (try simp only [List.map_toArray, List.map_cons, List.map_nil]); first | done | rfl | (simp only [List.length_drop, List.length_take]; rfl)) ?_; (with_reducible refine (quant_Check.calls k _ _ l0 t226 _ ?side1 ?side2 A3.out).mono ?_); (case side1 => repeat (first | exact HR0.out | (with_reducible refine Kd.C_alloc ?_ _) | (with_reducible refine Kd.C_drewN ?_ _) | (with_reducible refine Kd.C_drew ?_))); (case side2 => exact HC0.out); rintro e w18 ⟨rfl, hb⟩; refine ⟨_, rfl, ?_⟩; have n0_ := Aside0.mk (below_step (by repeat (first | (with_reducible first | exact HB.out | apply below_alloc | apply pw_below_drewN | apply below_drew1) | exact HB.out)) hb); clear HB; have HB := n0_; clear n0_; (try clear hb); (try clear hb2); (try clear hk); (try clear hi)) | ((with_reducible refine gate_callee (f := 11) rfl ?_); refine goesL_ (some 17) rfl rfl Try.func11 (by kernel_rfl) rfl #[.slice A1 l1.length c1] rfl (by (try simp only [List.map_toArray, List.map_cons, List.map_nil]); first | done | rfl | (simp only [List.length_drop, List.length_take]; rfl)) ?_; (with_reducible refine (quant_Check.calls k _ _ l1 t227 _ ?side1 ?side2 A4.out).mono ?_); (case side1 => repeat (first | exact (Kd.C_below HR1.out HB.out) | (with_reducible refine Kd.C_alloc ?_ _) | (with_reducible refine Kd.C_drewN ?_ _) | (with_reducible refine Kd.C_drew ?_))); (case side2 => exact HC1.out); rintro e w19 ⟨rfl, hb⟩; refine ⟨_, rfl, ?_⟩; have n0_ := Aside0.mk (below_step (by repeat (first | (with_reducible first | exact HB.out | apply below_alloc | apply pw_below_drewN | apply below_drew1) | exact HB.out)) hb); clear HB; have HB := n0_; clear n0_; (try clear hb); (try clear hb2); (try clear hk); (try clear hi)) | ((with_reducible refine gate_dst (N := 18) rfl ?_); refine Kd.R_lit (Kd.int .i64) _ 24 ?hg (N := 18) ?hd (xs := ([t226, t227] : List Int)) (inner := [.int .i64 t226, .int .i64 t227]) (ok := fun _ => True) (okp := fun _ => True) ?hr ?hp (fun _ hk => hk) trivial (Below.refl _ _) (Nat.le_refl _) (by simp) ?_; (case hd => rfl); (case hg => rfl); (case hr => first | (go_simp; done) | (go_simp; rfl)); (case hp => exact (Reps.one (show Kd.M (Kd.int .i64) _ _ _ t226 [.int .i64 t226] from rfl) (Reps.one (show Kd.M (Kd.int .i64) _ _ _ t227 [.int .i64 t227] from rfl) (Reps.none _ _)))); intro v229 w20 ho21 hb hg_ hnew_; clear hg_ hnew_; (first | rw [← Ny228.out] at ho21 | (simp only [Int.reduceToNat] at ho21; rw [← Ny228.out] at ho21)); have n0_ := Aside0.mk (Kd.R_lower ho21 (below_size (by repeat (first | (with_reducible first | exact HB.out | apply below_alloc | apply pw_below_drewN | apply below_drew1) | exact HB.out)))); have n1_ := Aside0.mk (below_step (by repeat (first | (with_reducible first | exact HB.out | apply below_alloc | apply pw_below_drewN | apply below_drew1) | exact HB.out)) hb); clear HB; have HO230 := n0_; have HB := n1_; clear n0_ n1_; clear hb ho21; obtain ⟨Ao22, co22, eo22⟩ := Kd.R_slice HO230.out; subst eo22) | ((with_reducible refine gate_callee (f := 24) rfl ?_); refine goesL_ (some 19) rfl rfl Try.func24 (by kernel_rfl) rfl #[.slice Ao22 y228.length co22] rfl (by (try simp only [List.map_toArray, List.map_cons, List.map_nil]); first | done | rfl | (simp only [List.length_drop, List.length_take]; rfl)) ?_; (with_reducible refine (api_Errno.calls k _ _ y228 t231 _ ?side1 ?side2 A5.out).mono ?_); (case side1 => repeat (first | exact (Kd.R_reads' HO230.out).2.2 | (with_reducible refine Kd.C_alloc ?_ _) | (with_reducible refine Kd.C_drewN ?_ _) | (with_reducible refine Kd.C_drew ?_))); (case side2 => exact (Kd.R_reads' HO230.out).2.1); rintro e w' ⟨rfl, ⟨nd, rfl⟩⟩; refine ⟨_, rfl, ?_⟩) | ((with_reducible refine gate_callee (f := 28) rfl ?_); refine goesL_ (some 25) rfl rfl Try.func28 (by kernel_rfl) rfl #[.slice A0 l0.length c0, .slice A1 l1.length c1] rfl (by (try simp only [List.map_toArray, List.map_cons, List.map_nil]); first | done | rfl | (simp only [List.length_drop, List.length_take]; rfl)) ?_; (with_reducible refine (quant_both.calls k (fun k_ => k_ < w.heap.size) _ _ l0 (fun k_ => k_ < w.heap.size) _ _ l1 t232 _ ?side1 ?side2 A7.out).mono ?_); (case side1 => exact Kd.V_mk HC0.out (Kd.F_below (Kd.C_F k28_heap HR0.out) (by repeat (first | (with_reducible first | exact HB.out | apply below_alloc | apply pw_below_drewN | apply below_drew1) | exact HB.out)))); (case side2 => exact Kd.V_mk HC1.out (Kd.F_below (Kd.C_F k28_heap HR1.out) (by repeat (first | (with_reducible first | exact HB.out | apply below_alloc | apply pw_below_drewN | apply below_drew1) | exact HB.out)))); rintro e w23 ⟨v233, rfl, ho0, hb⟩; refine ⟨_, rfl, ?_⟩; have n0_ := Aside0.mk (Kd.R_below (by (with_reducible repeat (first | apply Kd.R_alloc | apply Kd.R_drewN | apply Kd.R_drew)); exact HO230.out) hb); have n1_ := Aside0.mk (Kd.R_lower (Kd.R_mono (ok' := fun k_ => True) ho0 (fun _ hk_ => trivial)) (below_size (by repeat (first | (with_reducible first | exact HB.out | apply below_alloc | apply pw_below_drewN | apply below_drew1) | exact HB.out)))); have n2_ := Aside0.mk (below_step (by repeat (first | (with_reducible first | exact HB.out | apply below_alloc | apply pw_below_drewN | apply below_drew1) | exact HB.out)) hb); clear HO230; clear HB; have HO230 := n0_; have HO234 := n1_; have HB := n2_; clear n0_ n1_ n2_; (try clear hb); (try clear hb2); (try clear hk); (try clear hi); (try clear ho0); obtain ⟨Ao24, co24, eo24⟩ := Kd.R_slice HO234.out; subst eo24) | ((with_reducible refine gate_dst (N := 31) rfl ?_); refine Kd.R_makec k28 _ 28 rfl (N := 31) rfl 23 _ _ rfl (t232.length : Int) rfl rfl Try.underlying23 (.agg #[(.string ⟨#[]⟩), (.int .i64 0)]) 24 info28 rfl (by decide) (by omega) (ok := fun _ => True) trivial (of_decide_eq_true (by first | (with_reducible assumption) | assumption)) (Nat.le_trans (Nat.mul_le_mul_right _ (of_decide_eq_true (by first | (with_reducible assumption) | assumption) : (t232.length : Int).toNat ≤ 11728124029610)) (by omega)) (Below.refl _ _) (Nat.le_refl _) ?_; intro v236 w25 ho26 hb hg_ hnew_; clear hg_ hnew_; (first | rw [← Ny235.out] at ho26 | (simp only [Int.reduceToNat] at ho26; rw [← Ny235.out] at ho26)); have n0_ := Aside0.mk (Kd.R_below (by (with_reducible repeat (first | apply Kd.R_alloc | apply Kd.R_drewN | apply Kd.R_drew)); exact HO230.out) hb); have n1_ := Aside0.mk (Kd.R_below (by (with_reducible repeat (first | apply Kd.R_alloc | apply Kd.R_drewN | apply Kd.R_drew)); exact HO234.out) hb); have n2_ := Aside0.mk (Kd.R_lower ho26 (below_size (by repeat (first | (with_reducible first | exact HB.out | apply below_alloc | apply pw_below_drewN | apply below_drew1) | exact HB.out)))); have n3_ := Aside0.mk (below_step (by repeat (first | (with_reducible first | exact HB.out | apply below_alloc | apply pw_below_drewN | apply below_drew1) | exact HB.out)) hb); clear HO230; clear HO234; clear HB; have HO230 := n0_; have HO234 := n1_; have HO237 := n2_; have HB := n3_; clear n0_ n1_ n2_ n3_; clear hb ho26))
     go_loopg [9, 34] k (fun kq v9 v34 w' => ∃ (x9_1 : List (S28)) (x34_1 : Int), v34 = .int .i64 x34_1 ∧ Aside0 (quant_Add.l0 kq l0 l1 x9_1 t232 (t232.length : Int) x34_1 = some (r1, r2, r3)) ∧ Aside0 (kq ≤ k) ∧ Aside0 (Kd.R k28 28 w' w.heap.size (fun _ => True) v9 x9_1) ∧ Aside0 (Kd.R Kd.string 9 w' w.heap.size (fun _ => True) (.slice Ao24 t232.length co24) t232) ∧ Aside0 (Below w.heap.size w w'))
     case atStart => exact ⟨(y235), (0), (by first | rfl | (simp; done) | (simp [*]; done) | (simp only [i64_w]; done) | (simp [i64_w, Int.tdiv_eq_ediv_of_nonneg]; done)), H', ⟨Nat.le_refl _⟩, ⟨by (with_reducible repeat (first | apply Kd.R_alloc | apply Kd.R_drewN | apply Kd.R_drew)); exact HO237.out⟩, ⟨by (with_reducible repeat (first | apply Kd.R_alloc | apply Kd.R_drewN | apply Kd.R_drew)); exact HO234.out⟩, ⟨by repeat (first | (with_reducible first | exact HB.out | apply below_alloc | apply pw_below_drewN | apply below_drew1) | exact HB.out)⟩⟩
     case round =>
      clear H'
      try clear c1
      try clear c2
      try clear p2
      try clear c6
      try clear c6b0
      try clear c6b1
      try clear c8
      try clear c8b0
      try clear c8b1
      try clear c11
      try clear c16
      try clear c16b0
      try clear c16b1
      try clear c17
      try clear c17b0
      try clear c17b1
      try clear c20
      try clear c24
      obtain ⟨x9_1, x34_1, rfl, HA, HK1, HO_9, HO_32, HB⟩ := hrel
      cases gk with
      | zero => exact absurd HA.out (by simp [quant_Add.l0])
      | succ k1 =>
       have H := HA.out
       clear HA
       simp only [quant_Add.l0] at H
       by_cases c27 : x34_1 < (t232.length : Int)
       ·
        rw [if_pos c27] at H
        have c27b0 : decide (x34_1 < (t232.length : Int)) = true := decide_eq_true c27
        clear c27
        by_cases c28 : 0 ≤ x34_1
        ·
         rw [if_pos c28] at H
         have c28b0 : decide (0 ≤ x34_1) = true := decide_eq_true c28
         clear c28
         by_cases c29 : x34_1 < (t232.length : Int)
         ·
          rw [if_pos c29] at H
          have c29b0 : decide (x34_1 < (t232.length : Int)) = true := decide_eq_true c29
          clear c29
          replace H := Option.bind_eq_some_iff.mp H
          obtain ⟨t239, A300, H⟩ := H
          replace H : ((quant_Get.f k1 l1 (rdOf ByteArray.empty t232 x34_1)).bind fun t240 => (if t239 > (wrap64 (9223372036854775807 - t240)) then (some (([] : List (S28)), rdOf ByteArray.empty t232 x34_1, 28)) else (if x9_1.length < 5864062014805 then (quant_Add.l0 k1 l0 l1 (x9_1 ++ [(⟨rdOf ByteArray.empty t232 x34_1, wrap64 (t239 + t240)⟩ : S28)]) t232 (t232.length : Int) (wrap64 (x34_1 + 1))) else (none)))) = some (r1, r2, r3) := H
          have A30 := Aside0.mk A300
          clear A300
          replace H := Option.bind_eq_some_iff.mp H
          obtain ⟨t240, A310, H⟩ := H
          replace H : (if t239 > (wrap64 (9223372036854775807 - t240)) then (some (([] : List (S28)), rdOf ByteArray.empty t232 x34_1, 28)) else (if x9_1.length < 5864062014805 then (quant_Add.l0 k1 l0 l1 (x9_1 ++ [(⟨rdOf ByteArray.empty t232 x34_1, wrap64 (t239 + t240)⟩ : S28)]) t232 (t232.length : Int) (wrap64 (x34_1 + 1))) else (none))) = some (r1, r2, r3) := H
          have A31 := Aside0.mk A310
          clear A310
          by_cases c32 : t239 > (wrap64 (9223372036854775807 - t240))
          ·
           rw [if_pos c32] at H
           have c32b0 : decide ((wrap64 (9223372036854775807 - t240)) < t239) = true := decide_eq_true c32
           (try (have c32b1 : decide ((IntKind.i64.wrap (9223372036854775807 - t240)) < t239) = true := by have h_ : decide ((wrap64 (9223372036854775807 - t240)) < t239) = true := decide_eq_true c32; simp only [i64_w]; exact h_))
           clear c32
           simp only [Option.some.injEq, Prod.mk.injEq] at H
           obtain ⟨rfl, rfl, rfl⟩ := H
           have p238 : 0 ≤ (x34_1 : Int) := of_decide_eq_true (by first | (with_reducible assumption) | assumption)
           have q238 : x34_1 < (t232.length : Int) := of_decide_eq_true (by first | (with_reducible assumption) | assumption)
           obtain ⟨ad238, e238, hx238_0⟩ := Kd.at_string (Kd.R_reads' HO_32.out).2.2 x34_1 p238 q238
           cases e238
           replace p238 := eq_true p238
           replace q238 := eq_true q238
           go_wp2_with (first | ((with_reducible refine gate_callee (f := 12) rfl ?_); refine goesL_ (some 40) rfl rfl Try.func12 (by kernel_rfl) rfl #[.slice A0 l0.length c0, .string (rdOf ByteArray.empty t232 x34_1)] rfl (by (try simp only [List.map_toArray, List.map_cons, List.map_nil]); first | done | rfl | (simp only [List.length_drop, List.length_take]; rfl)) ?_; (with_reducible refine (quant_Get.calls k1 _ _ l0 (rdOf ByteArray.empty t232 x34_1) t239 _ ?side1 ?side2 A30.out).mono ?_); (case side1 => repeat (first | exact (Kd.C_below HR0.out HB.out) | (with_reducible refine Kd.C_alloc ?_ _) | (with_reducible refine Kd.C_drewN ?_ _) | (with_reducible refine Kd.C_drew ?_))); (case side2 => exact HC0.out); rintro e w33 ⟨rfl, hb⟩; refine ⟨_, rfl, ?_⟩; have n0_ := Aside0.mk (Kd.R_below (by (with_reducible repeat (first | apply Kd.R_alloc | apply Kd.R_drewN | apply Kd.R_drew)); exact HO_9.out) hb); have n1_ := Aside0.mk (Kd.R_below (by (with_reducible repeat (first | apply Kd.R_alloc | apply Kd.R_drewN | apply Kd.R_drew)); exact HO_32.out) hb); have n2_ := Aside0.mk (below_step (by repeat (first | (with_reducible first | exact HB.out | apply below_alloc | apply pw_below_drewN | apply below_drew1) | exact HB.out)) hb); clear HO_9; clear HO_32; clear HB; have HO_9 := n0_; have HO_32 := n1_; have HB := n2_; clear n0_ n1_ n2_; (try clear hb); (try clear hb2); (try clear hk); (try clear hi)) | ((with_reducible refine gate_callee (f := 12) rfl ?_); refine goesL_ (some 43) rfl rfl Try.func12 (by kernel_rfl) rfl #[.slice A1 l1.length c1, .string (rdOf ByteArray.empty t232 x34_1)] rfl (by (try simp only [List.map_toArray, List.map_cons, List.map_nil]); first | done | rfl | (simp only [List.length_drop, List.length_take]; rfl)) ?_; (with_reducible refine (quant_Get.calls k1 _ _ l1 (rdOf ByteArray.empty t232 x34_1) t240 _ ?side1 ?side2 A31.out).mono ?_); (case side1 => repeat (first | exact (Kd.C_below HR1.out HB.out) | (with_reducible refine Kd.C_alloc ?_ _) | (with_reducible refine Kd.C_drewN ?_ _) | (with_reducible refine Kd.C_drew ?_))); (case side2 => exact HC1.out); rintro e w34 ⟨rfl, hb⟩; refine ⟨_, rfl, ?_⟩; have n0_ := Aside0.mk (Kd.R_below (by (with_reducible repeat (first | apply Kd.R_alloc | apply Kd.R_drewN | apply Kd.R_drew)); exact HO_9.out) hb); have n1_ := Aside0.mk (Kd.R_below (by (with_reducible repeat (first | apply Kd.R_alloc | apply Kd.R_drewN | apply Kd.R_drew)); exact HO_32.out) hb); have n2_ := Aside0.mk (below_step (by repeat (first | (with_reducible first | exact HB.out | apply below_alloc | apply pw_below_drewN | apply below_drew1) | exact HB.out)) hb); clear HO_9; clear HO_32; clear HB; have HO_9 := n0_; have HO_32 := n1_; have HB := n2_; clear n0_ n1_ n2_; (try clear hb); (try clear hb2); (try clear hk); (try clear hi)))
           go_ret3
           exact ⟨_, by first | rfl | (simp [errW_none, errW_some] <;> rfl) | (simp [*, errW_none, errW_some] <;> rfl), by first | exact Kd.R_nil _ _ _ _ _ | exact Kd.N_nil _ _ _ _ _ | exact Kd.V_nil _ _ _ _ _ | exact Kd.Q_nil _ _ _ _ _ | exact Kd.S_nil _ _ _ _ _, by repeat (first | (with_reducible first | exact HB.out | apply below_alloc | apply pw_below_drewN | apply below_drew1) | exact HB.out)⟩
          ·
           rw [if_neg c32] at H
           have c32b0 : decide ((wrap64 (9223372036854775807 - t240)) < t239) = false := decide_eq_false c32
           (try (have c32b1 : decide ((IntKind.i64.wrap (9223372036854775807 - t240)) < t239) = false := by have h_ : decide ((wrap64 (9223372036854775807 - t240)) < t239) = false := decide_eq_false c32; simp only [i64_w]; exact h_))
           clear c32
           by_cases c35 : x9_1.length < 5864062014805
           ·
            rw [if_pos c35] at H
            have LMc35 := Aside0.mk c35
            clear c35
            obtain ⟨y241, hy241⟩ : ∃ y_ : List (S28), y_ = (x9_1 ++ [(⟨rdOf ByteArray.empty t232 x34_1, wrap64 (t239 + t240)⟩ : S28)]) := ⟨_, rfl⟩
            replace H : (quant_Add.l0 k1 l0 l1 y241 t232 (t232.length : Int) (wrap64 (x34_1 + 1))) = some (r1, r2, r3) := by first | (rw [hy241]; with_reducible exact H) | (have H2_ := (Option.bind_some _ _).symm.trans H; rw [hy241]; with_reducible exact H2_) | (have H2_ := (Option.bind_some _ _).symm.trans H; with_reducible exact H2_) | with_reducible exact H | (rw [hy241]; exact H) | exact H
            have Ny241 := Aside0.mk hy241
            clear hy241
            have H' := Aside0.mk H
            clear H
            have p238 : 0 ≤ (x34_1 : Int) := of_decide_eq_true (by first | (with_reducible assumption) | assumption)
            have q238 : x34_1 < (t232.length : Int) := of_decide_eq_true (by first | (with_reducible assumption) | assumption)
            obtain ⟨ad238, e238, hx238_0⟩ := Kd.at_string (Kd.R_reads' HO_32.out).2.2 x34_1 p238 q238
            cases e238
            replace p238 := eq_true p238
            replace q238 := eq_true q238
            go_wp2_with (first | ((with_reducible refine gate_callee (f := 12) rfl ?_); refine goesL_ (some 40) rfl rfl Try.func12 (by kernel_rfl) rfl #[.slice A0 l0.length c0, .string (rdOf ByteArray.empty t232 x34_1)] rfl (by (try simp only [List.map_toArray, List.map_cons, List.map_nil]); first | done | rfl | (simp only [List.length_drop, List.length_take]; rfl)) ?_; (with_reducible refine (quant_Get.calls k1 _ _ l0 (rdOf ByteArray.empty t232 x34_1) t239 _ ?side1 ?side2 A30.out).mono ?_); (case side1 => repeat (first | exact (Kd.C_below HR0.out HB.out) | (with_reducible refine Kd.C_alloc ?_ _) | (with_reducible refine Kd.C_drewN ?_ _) | (with_reducible refine Kd.C_drew ?_))); (case side2 => exact HC0.out); rintro e w36 ⟨rfl, hb⟩; refine ⟨_, rfl, ?_⟩; have n0_ := Aside0.mk (Kd.R_below (by (with_reducible repeat (first | apply Kd.R_alloc | apply Kd.R_drewN | apply Kd.R_drew)); exact HO_9.out) hb); have n1_ := Aside0.mk (Kd.R_below (by (with_reducible repeat (first | apply Kd.R_alloc | apply Kd.R_drewN | apply Kd.R_drew)); exact HO_32.out) hb); have n2_ := Aside0.mk (below_step (by repeat (first | (with_reducible first | exact HB.out | apply below_alloc | apply pw_below_drewN | apply below_drew1) | exact HB.out)) hb); clear HO_9; clear HO_32; clear HB; have HO_9 := n0_; have HO_32 := n1_; have HB := n2_; clear n0_ n1_ n2_; (try clear hb); (try clear hb2); (try clear hk); (try clear hi)) | ((with_reducible refine gate_callee (f := 12) rfl ?_); refine goesL_ (some 43) rfl rfl Try.func12 (by kernel_rfl) rfl #[.slice A1 l1.length c1, .string (rdOf ByteArray.empty t232 x34_1)] rfl (by (try simp only [List.map_toArray, List.map_cons, List.map_nil]); first | done | rfl | (simp only [List.length_drop, List.length_take]; rfl)) ?_; (with_reducible refine (quant_Get.calls k1 _ _ l1 (rdOf ByteArray.empty t232 x34_1) t240 _ ?side1 ?side2 A31.out).mono ?_); (case side1 => repeat (first | exact (Kd.C_below HR1.out HB.out) | (with_reducible refine Kd.C_alloc ?_ _) | (with_reducible refine Kd.C_drewN ?_ _) | (with_reducible refine Kd.C_drew ?_))); (case side2 => exact HC1.out); rintro e w37 ⟨rfl, hb⟩; refine ⟨_, rfl, ?_⟩; have n0_ := Aside0.mk (Kd.R_below (by (with_reducible repeat (first | apply Kd.R_alloc | apply Kd.R_drewN | apply Kd.R_drew)); exact HO_9.out) hb); have n1_ := Aside0.mk (Kd.R_below (by (with_reducible repeat (first | apply Kd.R_alloc | apply Kd.R_drewN | apply Kd.R_drew)); exact HO_32.out) hb); have n2_ := Aside0.mk (below_step (by repeat (first | (with_reducible first | exact HB.out | apply below_alloc | apply pw_below_drewN | apply below_drew1) | exact HB.out)) hb); clear HO_9; clear HO_32; clear HB; have HO_9 := n0_; have HO_32 := n1_; have HB := n2_; clear n0_ n1_ n2_; (try clear hb); (try clear hb2); (try clear hk); (try clear hi)) | ((with_reducible refine gate_builtin (b := .append) (xs := #[.tmp 49, .tmp 55]) rfl ?_); at_builtin; refine Kd.R_append k28 (w0 := w) w.heap.size rfl (.tmp 49) (.tmp 55) 23 28 (.agg #[(.string ⟨#[]⟩), (.int .i64 0)]) 24 rfl Try.underlying23 info28 rfl (by decide) (by omega) u9 x9_1 (⟨rdOf ByteArray.empty t232 x34_1, wrap64 (t239 + t240)⟩ : S28) [.string (rdOf ByteArray.empty t232 x34_1), .int .i64 (wrap64 (t239 + t240))] (fun _ => True) (fun _ => False) rfl rfl ?aP (fun _ hk => hk.elim) ?aF ?aO ?aB ?aS ?aL ?_; (case aP => exact k28_mkM _ _ _ (⟨rdOf ByteArray.empty t232 x34_1, wrap64 (t239 + t240)⟩ : S28)); (case aB => exact (by repeat (first | (with_reducible first | exact HB.out | apply below_alloc | apply pw_below_drewN | apply below_drew1) | exact HB.out))); (case aF => exact (fun _ _ => trivial)); (case aO => exact (by (with_reducible repeat (first | apply Kd.R_alloc | apply Kd.R_drewN | apply Kd.R_drew)); exact HO_9.out)); (case aS => exact (below_size (by repeat (first | (with_reducible first | exact HB.out | apply below_alloc | apply pw_below_drewN | apply below_drew1) | exact HB.out)))); (case aL => have := LMc35.out; omega); intro v242 w38 ho hb hg hat; rw [← Ny241.out] at ho; have n0_ := Aside0.mk (Kd.R_over' (by (with_reducible repeat (first | apply Kd.R_alloc | apply Kd.R_drewN | apply Kd.R_drew)); exact HO_32.out) (Kd.R_typed (by (with_reducible repeat (first | apply Kd.R_alloc | apply Kd.R_drewN | apply Kd.R_drew)); exact HO_9.out)) (by decide) hg); have n1_ := Aside0.mk (hb); have n2_ := Aside0.mk (ho); clear HO_32; clear HB; clear HO_9; have HO_32 := n0_; have HB := n1_; have HO243 := n2_; clear n0_ n1_ n2_; clear ho hb hg hat))
            go_roundg k1
            case measure => have := HK1.out; omega
            case rel => exact ⟨(y241), (wrap64 (x34_1 + 1)), (by first | rfl | (simp; done) | (simp [*]; done) | (simp only [i64_w]; done) | (simp [i64_w, Int.tdiv_eq_ediv_of_nonneg]; done)), H', ⟨by have := HK1.out; omega⟩, ⟨by (with_reducible repeat (first | apply Kd.R_alloc | apply Kd.R_drewN | apply Kd.R_drew)); exact HO243.out⟩, ⟨by (with_reducible repeat (first | apply Kd.R_alloc | apply Kd.R_drewN | apply Kd.R_drew)); exact HO_32.out⟩, ⟨by repeat (first | (with_reducible first | exact HB.out | apply below_alloc | apply pw_below_drewN | apply below_drew1) | exact HB.out)⟩⟩
           ·
            rw [if_neg c35] at H
            exact absurd H (by simp)
         ·
          rw [if_neg c29] at H
          exact absurd H (by simp)
        ·
         rw [if_neg c28] at H
         exact absurd H (by simp)
       ·
        rw [if_neg c27] at H
        have c27b0 : decide (x34_1 < (t232.length : Int)) = false := decide_eq_false c27
        clear c27
        simp only [Option.some.injEq, Prod.mk.injEq] at H
        obtain ⟨rfl, rfl, rfl⟩ := H
        go_wp2
        go_ret3
        exact ⟨_, by first | rfl | (simp [errW_none, errW_some] <;> rfl) | (simp [*, errW_none, errW_some] <;> rfl), by (with_reducible repeat (first | apply Kd.R_alloc | apply Kd.R_drewN | apply Kd.R_drew)); exact HO_9.out, by repeat (first | (with_reducible first | exact HB.out | apply below_alloc | apply pw_below_drewN | apply below_drew1) | exact HB.out)⟩
    ·
     rw [if_neg c17] at H
     exact absurd H (by simp)
   ·
    rw [if_neg c16] at H
    exact absurd H (by simp)
 ·
  rw [if_neg c6] at H
  have c6b0 : (t231 == 0) = false := beq_eq_false_iff_ne.mpr c6
  have c6b1 : (t231 != 0) = true := bne_iff_ne.mpr c6
  simp only [Option.some.injEq, Prod.mk.injEq] at H
  obtain ⟨rfl, rfl, rfl⟩ := H
  go_enter Try.func20, Try.ntmps20
  go_wp2_with (first | ((with_reducible refine gate_callee (f := 11) rfl ?_); refine goesL_ (some 15) rfl rfl Try.func11 (by kernel_rfl) rfl #[.slice A0 l0.length c0] rfl (by (try simp only [List.map_toArray, List.map_cons, List.map_nil]); first | done | rfl | (simp only [List.length_drop, List.length_take]; rfl)) ?_; (with_reducible refine (quant_Check.calls k _ _ l0 t226 _ ?side1 ?side2 A3.out).mono ?_); (case side1 => repeat (first | exact HR0.out | (with_reducible refine Kd.C_alloc ?_ _) | (with_reducible refine Kd.C_drewN ?_ _) | (with_reducible refine Kd.C_drew ?_))); (case side2 => exact HC0.out); rintro e w39 ⟨rfl, hb⟩; refine ⟨_, rfl, ?_⟩; have n0_ := Aside0.mk (below_step (by repeat (first | (with_reducible first | exact HB.out | apply below_alloc | apply pw_below_drewN | apply below_drew1) | exact HB.out)) hb); clear HB; have HB := n0_; clear n0_; (try clear hb); (try clear hb2); (try clear hk); (try clear hi)) | ((with_reducible refine gate_callee (f := 11) rfl ?_); refine goesL_ (some 17) rfl rfl Try.func11 (by kernel_rfl) rfl #[.slice A1 l1.length c1] rfl (by (try simp only [List.map_toArray, List.map_cons, List.map_nil]); first | done | rfl | (simp only [List.length_drop, List.length_take]; rfl)) ?_; (with_reducible refine (quant_Check.calls k _ _ l1 t227 _ ?side1 ?side2 A4.out).mono ?_); (case side1 => repeat (first | exact (Kd.C_below HR1.out HB.out) | (with_reducible refine Kd.C_alloc ?_ _) | (with_reducible refine Kd.C_drewN ?_ _) | (with_reducible refine Kd.C_drew ?_))); (case side2 => exact HC1.out); rintro e w40 ⟨rfl, hb⟩; refine ⟨_, rfl, ?_⟩; have n0_ := Aside0.mk (below_step (by repeat (first | (with_reducible first | exact HB.out | apply below_alloc | apply pw_below_drewN | apply below_drew1) | exact HB.out)) hb); clear HB; have HB := n0_; clear n0_; (try clear hb); (try clear hb2); (try clear hk); (try clear hi)) | ((with_reducible refine gate_dst (N := 18) rfl ?_); refine Kd.R_lit (Kd.int .i64) _ 24 ?hg (N := 18) ?hd (xs := ([t226, t227] : List Int)) (inner := [.int .i64 t226, .int .i64 t227]) (ok := fun _ => True) (okp := fun _ => True) ?hr ?hp (fun _ hk => hk) trivial (Below.refl _ _) (Nat.le_refl _) (by simp) ?_; (case hd => rfl); (case hg => rfl); (case hr => first | (go_simp; done) | (go_simp; rfl)); (case hp => exact (Reps.one (show Kd.M (Kd.int .i64) _ _ _ t226 [.int .i64 t226] from rfl) (Reps.one (show Kd.M (Kd.int .i64) _ _ _ t227 [.int .i64 t227] from rfl) (Reps.none _ _)))); intro v229 w41 ho42 hb hg_ hnew_; clear hg_ hnew_; (first | rw [← Ny228.out] at ho42 | (simp only [Int.reduceToNat] at ho42; rw [← Ny228.out] at ho42)); have n0_ := Aside0.mk (Kd.R_lower ho42 (below_size (by repeat (first | (with_reducible first | exact HB.out | apply below_alloc | apply pw_below_drewN | apply below_drew1) | exact HB.out)))); have n1_ := Aside0.mk (below_step (by repeat (first | (with_reducible first | exact HB.out | apply below_alloc | apply pw_below_drewN | apply below_drew1) | exact HB.out)) hb); clear HB; have HO230 := n0_; have HB := n1_; clear n0_ n1_; clear hb ho42; obtain ⟨Ao43, co43, eo43⟩ := Kd.R_slice HO230.out; subst eo43) | ((with_reducible refine gate_callee (f := 24) rfl ?_); refine goesL_ (some 19) rfl rfl Try.func24 (by kernel_rfl) rfl #[.slice Ao43 y228.length co43] rfl (by (try simp only [List.map_toArray, List.map_cons, List.map_nil]); first | done | rfl | (simp only [List.length_drop, List.length_take]; rfl)) ?_; (with_reducible refine (api_Errno.calls k _ _ y228 t231 _ ?side1 ?side2 A5.out).mono ?_); (case side1 => repeat (first | exact (Kd.R_reads' HO230.out).2.2 | (with_reducible refine Kd.C_alloc ?_ _) | (with_reducible refine Kd.C_drewN ?_ _) | (with_reducible refine Kd.C_drew ?_))); (case side2 => exact (Kd.R_reads' HO230.out).2.1); rintro e w' ⟨rfl, ⟨nd, rfl⟩⟩; refine ⟨_, rfl, ?_⟩))
  go_ret3
  exact ⟨_, by first | rfl | (simp [errW_none, errW_some] <;> rfl) | (simp [*, errW_none, errW_some] <;> rfl), by first | exact Kd.R_nil _ _ _ _ _ | exact Kd.N_nil _ _ _ _ _ | exact Kd.V_nil _ _ _ _ _ | exact Kd.Q_nil _ _ _ _ _ | exact Kd.S_nil _ _ _ _ _, by repeat (first | (with_reducible first | exact HB.out | apply below_alloc | apply pw_below_drewN | apply below_drew1) | exact HB.out)⟩
def berthlaw02_Same.l0 : Nat → List (S28) → List (S28) → Int → Int → Option (Bool)
  | 0, _, _, _, _ => none
  | k + 1, x0, x1, x12, x13 => if x13 < x12 then (if 0 ≤ x13 then (if x13 < (x0.length : Int) then (if x13 < (x1.length : Int) then (if (!((((rd_T28 x0 x13).f0).toList) == (((rd_T28 x1 x13).f0).toList)) || (!(((rd_T28 x0 x13).f1) == ((rd_T28 x1 x13).f1)))) = true then (some false) else (berthlaw02_Same.l0 k x0 x1 x12 (wrap64 (x13 + 1)))) else (none)) else (none)) else (none)) else (some true)
def berthlaw02_Same.f (k : Nat) (l0 : List (S28)) (l1 : List (S28)) : Option (Bool) := if (l0.length : Int) = (l1.length : Int) then (berthlaw02_Same.l0 k l0 l1 (l0.length : Int) 0) else (some false)
theorem berthlaw02_Same.mono_l : ∀ k, (∀ y0 y1 y2 y3, LeO (berthlaw02_Same.l0 k y0 y1 y2 y3) (berthlaw02_Same.l0 (k + 1) y0 y1 y2 y3))
  | 0 => fun _ _ _ _ r h => by simp [berthlaw02_Same.l0] at h
  | k + 1 => by
    have ih0 := berthlaw02_Same.mono_l k
    · intro y0 y1 y2 y3
      unfold berthlaw02_Same.l0
      repeat' first
      | (with_reducible exact ih0 _ _ _ _)
      | (with_reducible exact LeO.refl _)
      | (with_reducible exact LeO.none _)
      | (with_reducible refine LeO.ite ?_ ?_)
      | (with_reducible refine LeO.bind ?_ (fun _ => ?_))
      | exact ih0 _ _ _ _
      | exact LeO.none _
      | refine LeO.ite ?_ ?_
      | refine LeO.bind ?_ (fun _ => ?_)
theorem berthlaw02_Same.mono : ∀ a0 a1 k, LeO (berthlaw02_Same.f k a0 a1) (berthlaw02_Same.f (k + 1) a0 a1) := by
  intro a0 a1 k
  have ih0 := berthlaw02_Same.mono_l k
  unfold berthlaw02_Same.f
  repeat' first
      | (with_reducible exact ih0 _ _ _ _)
      | (with_reducible exact LeO.refl _)
      | (with_reducible exact LeO.none _)
      | (with_reducible refine LeO.ite ?_ ?_)
      | (with_reducible refine LeO.bind ?_ (fun _ => ?_))
      | exact ih0 _ _ _ _
      | exact LeO.none _
      | refine LeO.ite ?_ ?_
      | refine LeO.bind ?_ (fun _ => ?_)
set_option maxHeartbeats 8000000 in
set_option maxRecDepth 100000 in
theorem berthlaw02_Same.calls (k : Nat) (A0 : Option Addr) (c0 : Nat) (l0 : List (S28)) (A1 : Option Addr) (c1 : Nat) (l1 : List (S28)) (r : Bool) (w : World) (hr0 : Kd.C k28 w A0 l0.length l0) (hc0 : l0.length ≤ c0) (hr1 : Kd.C k28 w A1 l1.length l1) (hc1 : l1.length ≤ c1) (h : berthlaw02_Same.f k l0 l1 = some r) :
 Calls Try.prog 21 #[.slice A0 l0.length c0, .slice A1 l1.length c1] w fun e w' => e = .returned (.bool r) ∧ Drawn0 w w' := by
 have hu28 := Try.underlying28
 have HR0 := Aside0.mk hr0
 have HC0 := Aside0.mk hc0
 clear hr0 hc0
 have HR1 := Aside0.mk hr1
 have HC1 := Aside0.mk hc1
 clear hr1 hc1
 have H : (if (l0.length : Int) = (l1.length : Int) then (berthlaw02_Same.l0 k l0 l1 (l0.length : Int) 0) else (some false)) = some r := h
 clear h
 by_cases c3 : (l0.length : Int) = (l1.length : Int)
 ·
  rw [if_pos c3] at H
  have c3b0 : ((l0.length : Int) == (l1.length : Int)) = true := beq_iff_eq.mpr c3
  have c3b1 : ((l0.length : Int) != (l1.length : Int)) = false := bne_eq_false_iff_eq.mpr c3
  have c3b2 : (l0.length == l1.length) = true := by first | simpa using c3 | (simp at c3 ⊢; omega)
  clear c3
  have H' := Aside0.mk H
  clear H
  go_enter Try.func21, Try.ntmps21
  go_wp2
  repeat (go_quiet (fail); try go_wp2)
  go_loopg [13] k (fun kq v13 w' => ∃ (x13_1 : Int), v13 = .int .i64 x13_1 ∧ Aside0 (berthlaw02_Same.l0 kq l0 l1 (l0.length : Int) x13_1 = some r) ∧ Aside0 (kq ≤ k) ∧ Drawn0 w w')
  case atStart => exact ⟨(0), (by first | rfl | (simp; done) | (simp [*]; done) | (simp only [i64_w]; done) | (simp [i64_w, Int.tdiv_eq_ediv_of_nonneg]; done)), H', ⟨Nat.le_refl _⟩, by repeat (first | exact Drawn0.refl _ | apply Drawn0.step)⟩
  case round =>
   clear H'
   try clear c1
   try clear c2
   try clear p2
   try clear c3
   try clear c3b0
   try clear c3b1
   try clear c3b2
   obtain ⟨x13_1, rfl, HA, HK1, ⟨m1, rfl⟩⟩ := hrel
   cases gk with
   | zero => exact absurd HA.out (by simp [berthlaw02_Same.l0])
   | succ k1 =>
    have H := HA.out
    clear HA
    simp only [berthlaw02_Same.l0] at H
    by_cases c4 : x13_1 < (l0.length : Int)
    ·
     rw [if_pos c4] at H
     have c4b0 : decide (x13_1 < (l0.length : Int)) = true := decide_eq_true c4
     clear c4
     by_cases c5 : 0 ≤ x13_1
     ·
      rw [if_pos c5] at H
      have c5b0 : decide (0 ≤ x13_1) = true := decide_eq_true c5
      clear c5
      by_cases c6 : x13_1 < (l0.length : Int)
      ·
       rw [if_pos c6] at H
       have c6b0 : decide (x13_1 < (l0.length : Int)) = true := decide_eq_true c6
       clear c6
       by_cases c7 : x13_1 < (l1.length : Int)
       ·
        rw [if_pos c7] at H
        have c7b0 : decide (x13_1 < (l1.length : Int)) = true := decide_eq_true c7
        clear c7
        by_cases c8 : (!((((rd_T28 l0 x13_1).f0).toList) == (((rd_T28 l1 x13_1).f0).toList)) || (!(((rd_T28 l0 x13_1).f1) == ((rd_T28 l1 x13_1).f1)))) = true
        ·
         rw [if_pos c8] at H
         have c8b0 : (!((((rd_T28 l0 x13_1).f0).toList) == (((rd_T28 l1 x13_1).f0).toList)) || (!(((rd_T28 l0 x13_1).f1) == ((rd_T28 l1 x13_1).f1)))) = true := c8
         clear c8
         obtain rfl := Option.some.inj H
         have p244 : 0 ≤ (x13_1 : Int) := of_decide_eq_true (by first | (with_reducible assumption) | assumption)
         have q244 : x13_1 < (l0.length : Int) := of_decide_eq_true (by first | (with_reducible assumption) | assumption)
         obtain ⟨ad244, e244, hx244_0, hx244_1⟩ := at_T28 HR0.out x13_1 p244 q244
         cases e244
         replace p244 := eq_true p244
         replace q244 := eq_true q244
         have p245 : 0 ≤ (x13_1 : Int) := of_decide_eq_true (by first | (with_reducible assumption) | assumption)
         have q245 : x13_1 < (l1.length : Int) := of_decide_eq_true (by first | (with_reducible assumption) | assumption)
         obtain ⟨ad245, e245, hx245_0, hx245_1⟩ := at_T28 HR1.out x13_1 p245 q245
         cases e245
         replace p245 := eq_true p245
         replace q245 := eq_true q245
         go_wp2
         repeat (go_quiet (fail); try go_wp2)
         go_ret
         exact ⟨by first | rfl | (simp; done) | (simp [*]; done) | (simp only [i64_w]; done) | (simp [i64_w, Int.tdiv_eq_ediv_of_nonneg]; done), by repeat (first | exact Drawn0.refl _ | apply Drawn0.step)⟩
        ·
         rw [if_neg c8] at H
         have c8b0 : (!((((rd_T28 l0 x13_1).f0).toList) == (((rd_T28 l1 x13_1).f0).toList)) || (!(((rd_T28 l0 x13_1).f1) == ((rd_T28 l1 x13_1).f1)))) = false := by simpa using c8
         clear c8
         have H' := Aside0.mk H
         clear H
         have p244 : 0 ≤ (x13_1 : Int) := of_decide_eq_true (by first | (with_reducible assumption) | assumption)
         have q244 : x13_1 < (l0.length : Int) := of_decide_eq_true (by first | (with_reducible assumption) | assumption)
         obtain ⟨ad244, e244, hx244_0, hx244_1⟩ := at_T28 HR0.out x13_1 p244 q244
         cases e244
         replace p244 := eq_true p244
         replace q244 := eq_true q244
         have p245 : 0 ≤ (x13_1 : Int) := of_decide_eq_true (by first | (with_reducible assumption) | assumption)
         have q245 : x13_1 < (l1.length : Int) := of_decide_eq_true (by first | (with_reducible assumption) | assumption)
         obtain ⟨ad245, e245, hx245_0, hx245_1⟩ := at_T28 HR1.out x13_1 p245 q245
         cases e245
         replace p245 := eq_true p245
         replace q245 := eq_true q245
         go_wp2
         repeat (go_quiet (fail); try go_wp2)
         go_roundg k1
         case measure => have := HK1.out; omega
         case rel => exact ⟨(wrap64 (x13_1 + 1)), (by first | rfl | (simp; done) | (simp [*]; done) | (simp only [i64_w]; done) | (simp [i64_w, Int.tdiv_eq_ediv_of_nonneg]; done)), H', ⟨by have := HK1.out; omega⟩, by repeat (first | exact Drawn0.refl _ | apply Drawn0.step)⟩
       ·
        rw [if_neg c7] at H
        exact absurd H (by simp)
      ·
       rw [if_neg c6] at H
       exact absurd H (by simp)
     ·
      rw [if_neg c5] at H
      exact absurd H (by simp)
    ·
     rw [if_neg c4] at H
     have c4b0 : decide (x13_1 < (l0.length : Int)) = false := decide_eq_false c4
     clear c4
     obtain rfl := Option.some.inj H
     go_wp2
     repeat (go_quiet (fail); try go_wp2)
     go_ret
     exact ⟨by first | rfl | (simp; done) | (simp [*]; done) | (simp only [i64_w]; done) | (simp [i64_w, Int.tdiv_eq_ediv_of_nonneg]; done), by repeat (first | exact Drawn0.refl _ | apply Drawn0.step)⟩
 ·
  rw [if_neg c3] at H
  have c3b0 : ((l0.length : Int) == (l1.length : Int)) = false := beq_eq_false_iff_ne.mpr c3
  have c3b1 : ((l0.length : Int) != (l1.length : Int)) = true := bne_iff_ne.mpr c3
  have c3b2 : (l0.length == l1.length) = false := by first | simpa using c3 | (simp at c3 ⊢; omega)
  obtain rfl := Option.some.inj H
  go_enter Try.func21, Try.ntmps21
  go_wp2
  repeat (go_quiet (fail); try go_wp2)
  go_ret
  exact ⟨by first | rfl | (simp; done) | (simp [*]; done) | (simp only [i64_w]; done) | (simp [i64_w, Int.tdiv_eq_ediv_of_nonneg]; done), by repeat (first | exact Drawn0.refl _ | apply Drawn0.step)⟩
def berthlaw02_fixedSum.f (k : Nat)  : Option (Bool) := (quant_Add.f k (([(⟨(⟨#[99, 112, 117]⟩ : ByteArray), 4⟩ : S28)] : List (S28))) (([(⟨(⟨#[99, 112, 117]⟩ : ByteArray), 1⟩ : S28), (⟨(⟨#[109, 101, 109]⟩ : ByteArray), 2⟩ : S28)] : List (S28)))).bind fun bt252 => ((berthlaw02_Same.f k bt252.1 (([(⟨(⟨#[99, 112, 117]⟩ : ByteArray), 5⟩ : S28), (⟨(⟨#[109, 101, 109]⟩ : ByteArray), 2⟩ : S28)] : List (S28)))).bind fun t260 => (if t260 = true then (if bt252.2.1.toList = ([] : List UInt8) then (some (bt252.2.2 == 0)) else (some false)) else (some false)))
theorem berthlaw02_fixedSum.mono : ∀ k, LeO (berthlaw02_fixedSum.f k ) (berthlaw02_fixedSum.f (k + 1) ) := by
  intro  k
  unfold berthlaw02_fixedSum.f
  repeat' first
      | (with_reducible exact berthlaw02_Same.mono _ _ _)
      | (with_reducible exact quant_Add.mono _ _ _)
      | (with_reducible exact LeO.refl _)
      | (with_reducible exact LeO.none _)
      | (with_reducible refine LeO.ite ?_ ?_)
      | (with_reducible refine LeO.bind ?_ (fun _ => ?_))
      | exact berthlaw02_Same.mono _ _ _
      | exact quant_Add.mono _ _ _
      | exact LeO.none _
      | refine LeO.ite ?_ ?_
      | refine LeO.bind ?_ (fun _ => ?_)
set_option maxHeartbeats 8000000 in
set_option maxRecDepth 100000 in
theorem berthlaw02_fixedSum.calls (k : Nat)  (r : Bool) (w : World) (h : berthlaw02_fixedSum.f k  = some r) :
 Calls Try.prog 19 #[] w fun e w' => e = .returned (.bool r) ∧ Below w.heap.size w w' := by
 have hu28 := Try.underlying28
 have HB := Aside0.mk (Below.refl w.heap.size w)
 have H : ((quant_Add.f k (([(⟨(⟨#[99, 112, 117]⟩ : ByteArray), 4⟩ : S28)] : List (S28))) (([(⟨(⟨#[99, 112, 117]⟩ : ByteArray), 1⟩ : S28), (⟨(⟨#[109, 101, 109]⟩ : ByteArray), 2⟩ : S28)] : List (S28)))).bind fun bt252 => ((berthlaw02_Same.f k bt252.1 (([(⟨(⟨#[99, 112, 117]⟩ : ByteArray), 5⟩ : S28), (⟨(⟨#[109, 101, 109]⟩ : ByteArray), 2⟩ : S28)] : List (S28)))).bind fun t260 => (if t260 = true then (if bt252.2.1.toList = ([] : List UInt8) then (some (bt252.2.2 == 0)) else (some false)) else (some false)))) = some r := h
 clear h
 obtain ⟨y246, hy246⟩ : ∃ y_ : List (S28), y_ = (([(⟨(⟨#[99, 112, 117]⟩ : ByteArray), 4⟩ : S28)] : List (S28))) := ⟨_, rfl⟩
 replace H : ((quant_Add.f k y246 (([(⟨(⟨#[99, 112, 117]⟩ : ByteArray), 1⟩ : S28), (⟨(⟨#[109, 101, 109]⟩ : ByteArray), 2⟩ : S28)] : List (S28)))).bind fun bt252 => ((berthlaw02_Same.f k bt252.1 (([(⟨(⟨#[99, 112, 117]⟩ : ByteArray), 5⟩ : S28), (⟨(⟨#[109, 101, 109]⟩ : ByteArray), 2⟩ : S28)] : List (S28)))).bind fun t260 => (if t260 = true then (if bt252.2.1.toList = ([] : List UInt8) then (some (bt252.2.2 == 0)) else (some false)) else (some false)))) = some r := by first | (rw [hy246]; with_reducible exact H) | (have H2_ := (Option.bind_some _ _).symm.trans H; rw [hy246]; with_reducible exact H2_) | (have H2_ := (Option.bind_some _ _).symm.trans H; with_reducible exact H2_) | with_reducible exact H | (rw [hy246]; exact H) | exact H
 have Ny246 := Aside0.mk hy246
 clear hy246
 obtain ⟨y249, hy249⟩ : ∃ y_ : List (S28), y_ = (([(⟨(⟨#[99, 112, 117]⟩ : ByteArray), 1⟩ : S28), (⟨(⟨#[109, 101, 109]⟩ : ByteArray), 2⟩ : S28)] : List (S28))) := ⟨_, rfl⟩
 replace H : ((quant_Add.f k y246 y249).bind fun bt252 => ((berthlaw02_Same.f k bt252.1 (([(⟨(⟨#[99, 112, 117]⟩ : ByteArray), 5⟩ : S28), (⟨(⟨#[109, 101, 109]⟩ : ByteArray), 2⟩ : S28)] : List (S28)))).bind fun t260 => (if t260 = true then (if bt252.2.1.toList = ([] : List UInt8) then (some (bt252.2.2 == 0)) else (some false)) else (some false)))) = some r := by first | (rw [hy249]; with_reducible exact H) | (have H2_ := (Option.bind_some _ _).symm.trans H; rw [hy249]; with_reducible exact H2_) | (have H2_ := (Option.bind_some _ _).symm.trans H; with_reducible exact H2_) | with_reducible exact H | (rw [hy249]; exact H) | exact H
 have Ny249 := Aside0.mk hy249
 clear hy249
 replace H := Option.bind_eq_some_iff.mp H
 obtain ⟨⟨t252, t253, t254⟩, A10, H⟩ := H
 replace H : ((berthlaw02_Same.f k t252 (([(⟨(⟨#[99, 112, 117]⟩ : ByteArray), 5⟩ : S28), (⟨(⟨#[109, 101, 109]⟩ : ByteArray), 2⟩ : S28)] : List (S28)))).bind fun t260 => (if t260 = true then (if t253.toList = ([] : List UInt8) then (some (t254 == 0)) else (some false)) else (some false))) = some r := H
 have A1 := Aside0.mk A10
 clear A10
 obtain ⟨y257, hy257⟩ : ∃ y_ : List (S28), y_ = (([(⟨(⟨#[99, 112, 117]⟩ : ByteArray), 5⟩ : S28), (⟨(⟨#[109, 101, 109]⟩ : ByteArray), 2⟩ : S28)] : List (S28))) := ⟨_, rfl⟩
 replace H : ((berthlaw02_Same.f k t252 y257).bind fun t260 => (if t260 = true then (if t253.toList = ([] : List UInt8) then (some (t254 == 0)) else (some false)) else (some false))) = some r := by first | (rw [hy257]; with_reducible exact H) | (have H2_ := (Option.bind_some _ _).symm.trans H; rw [hy257]; with_reducible exact H2_) | (have H2_ := (Option.bind_some _ _).symm.trans H; with_reducible exact H2_) | with_reducible exact H | (rw [hy257]; exact H) | exact H
 have Ny257 := Aside0.mk hy257
 clear hy257
 replace H := Option.bind_eq_some_iff.mp H
 obtain ⟨t260, A20, H⟩ := H
 replace H : (if t260 = true then (if t253.toList = ([] : List UInt8) then (some (t254 == 0)) else (some false)) else (some false)) = some r := H
 have A2 := Aside0.mk A20
 clear A20
 by_cases c3 : t260 = true
 ·
  subst c3
  have H1 : (if t253.toList = ([] : List UInt8) then (some (t254 == 0)) else (some false)) = some r := by rw [if_pos rfl] at H; exact H
  clear H
  have H := H1
  clear H1
  by_cases c4 : t253.toList = ([] : List UInt8)
  ·
   rw [if_pos c4] at H
   have c4b0 : (t253.toList == ([] : List UInt8)) = true := beq_iff_eq.mpr c4
   have c4b1 : (t253.toList != ([] : List UInt8)) = false := bne_eq_false_iff_eq.mpr c4
   clear c4
   obtain rfl := Option.some.inj H
   go_enter Try.func19, Try.ntmps19
   go_wp2_with (first | ((with_reducible refine gate_dst (N := 6) rfl ?_); refine Kd.R_lit k28 _ 28 ?hg (N := 6) ?hd (xs := ([(⟨(⟨#[99, 112, 117]⟩ : ByteArray), 4⟩ : S28)] : List (S28))) (inner := [.string (⟨#[99, 112, 117]⟩ : ByteArray), .int .i64 4]) (ok := fun _ => True) (okp := fun _ => True) ?hr ?hp (fun _ hk => hk) trivial (Below.refl _ _) (Nat.le_refl _) (by simp) ?_; (case hd => rfl); (case hg => rfl); (case hr => first | (go_simp; done) | (go_simp; rfl)); (case hp => exact (Reps.c2 (show Kd.M k28 _ _ _ (⟨(⟨#[99, 112, 117]⟩ : ByteArray), 4⟩ : S28) [.string (⟨#[99, 112, 117]⟩ : ByteArray), .int .i64 4] from (k28_mkM _ _ _ (⟨(⟨#[99, 112, 117]⟩ : ByteArray), 4⟩ : S28) )) (Reps.none _ _))); intro v247 w5 ho6 hb hg_ hnew_; clear hg_ hnew_; (first | rw [← Ny246.out] at ho6 | (simp only [Int.reduceToNat] at ho6; rw [← Ny246.out] at ho6)); have n0_ := Aside0.mk (Kd.R_lower ho6 (below_size (by repeat (first | (with_reducible first | exact HB.out | apply below_alloc | apply pw_below_drewN | apply below_drew1) | exact HB.out)))); have n1_ := Aside0.mk (below_step (by repeat (first | (with_reducible first | exact HB.out | apply below_alloc | apply pw_below_drewN | apply below_drew1) | exact HB.out)) hb); clear HB; have HO248 := n0_; have HB := n1_; clear n0_ n1_; clear hb ho6) | ((with_reducible refine gate_dst (N := 9) rfl ?_); refine Kd.R_lit k28 _ 28 ?hg (N := 9) ?hd (xs := ([(⟨(⟨#[99, 112, 117]⟩ : ByteArray), 1⟩ : S28), (⟨(⟨#[109, 101, 109]⟩ : ByteArray), 2⟩ : S28)] : List (S28))) (inner := [.string (⟨#[99, 112, 117]⟩ : ByteArray), .int .i64 1, .string (⟨#[109, 101, 109]⟩ : ByteArray), .int .i64 2]) (ok := fun _ => True) (okp := fun _ => True) ?hr ?hp (fun _ hk => hk) trivial (Below.refl _ _) (Nat.le_refl _) (by simp) ?_; (case hd => rfl); (case hg => rfl); (case hr => first | (go_simp; done) | (go_simp; rfl)); (case hp => exact (Reps.c2 (show Kd.M k28 _ _ _ (⟨(⟨#[99, 112, 117]⟩ : ByteArray), 1⟩ : S28) [.string (⟨#[99, 112, 117]⟩ : ByteArray), .int .i64 1] from (k28_mkM _ _ _ (⟨(⟨#[99, 112, 117]⟩ : ByteArray), 1⟩ : S28) )) (Reps.c2 (show Kd.M k28 _ _ _ (⟨(⟨#[109, 101, 109]⟩ : ByteArray), 2⟩ : S28) [.string (⟨#[109, 101, 109]⟩ : ByteArray), .int .i64 2] from (k28_mkM _ _ _ (⟨(⟨#[109, 101, 109]⟩ : ByteArray), 2⟩ : S28) )) (Reps.none _ _)))); intro v250 w7 ho8 hb hg_ hnew_; clear hg_ hnew_; (first | rw [← Ny249.out] at ho8 | (simp only [Int.reduceToNat] at ho8; rw [← Ny249.out] at ho8)); have n0_ := Aside0.mk (Kd.R_elder' (by (with_reducible repeat (first | apply Kd.R_alloc | apply Kd.R_drewN | apply Kd.R_drew)); exact HO248.out) (Kd.R_base ho8) hb); have n1_ := Aside0.mk (Kd.R_lower (Kd.R_new' ho8 (Kd.R_lt (by (with_reducible repeat (first | apply Kd.R_alloc | apply Kd.R_drewN | apply Kd.R_drew)); exact HO248.out))) (below_size (by repeat (first | (with_reducible first | exact HB.out | apply below_alloc | apply pw_below_drewN | apply below_drew1) | exact HB.out)))); have n2_ := Aside0.mk (below_step (by repeat (first | (with_reducible first | exact HB.out | apply below_alloc | apply pw_below_drewN | apply below_drew1) | exact HB.out)) hb); clear HO248; clear HB; have HO248 := n0_; have HO251 := n1_; have HB := n2_; clear n0_ n1_ n2_; clear hb ho8; obtain ⟨Ao9, co9, eo9⟩ := Kd.R_slice HO248.out; subst eo9; obtain ⟨Ao10, co10, eo10⟩ := Kd.R_slice HO251.out; subst eo10) | ((with_reducible refine gate_callee (f := 20) rfl ?_); refine goesL_ (some 10) rfl rfl Try.func20 (by kernel_rfl) rfl #[.slice Ao9 y246.length co9, .slice Ao10 y249.length co10] rfl (by (try simp only [List.map_toArray, List.map_cons, List.map_nil]); first | done | rfl | (simp only [List.length_drop, List.length_take]; rfl)) ?_; (with_reducible refine (quant_Add.calls k _ _ y246 _ _ y249 t252 t253 t254 _ ?side1 ?side2 ?side3 ?side4 A1.out).mono ?_); (case side1 => repeat (first | exact (Kd.R_reads' HO248.out).2.2 | (with_reducible refine Kd.C_alloc ?_ _) | (with_reducible refine Kd.C_drewN ?_ _) | (with_reducible refine Kd.C_drew ?_))); (case side2 => exact (Kd.R_reads' HO248.out).2.1); (case side3 => repeat (first | exact (Kd.R_reads' HO251.out).2.2 | (with_reducible refine Kd.C_alloc ?_ _) | (with_reducible refine Kd.C_drewN ?_ _) | (with_reducible refine Kd.C_drew ?_))); (case side4 => exact (Kd.R_reads' HO251.out).2.1); rintro e w11 ⟨v255, rfl, ho0, hb⟩; refine ⟨_, rfl, ?_⟩; have n0_ := Aside0.mk (Kd.R_elder' (by (with_reducible repeat (first | apply Kd.R_alloc | apply Kd.R_drewN | apply Kd.R_drew)); exact HO248.out) (Kd.R_base ho0) hb); have n1_ := Aside0.mk (Kd.R_elder' (by (with_reducible repeat (first | apply Kd.R_alloc | apply Kd.R_drewN | apply Kd.R_drew)); exact HO251.out) (Kd.R_base ho0) hb); have n2_ := Aside0.mk (Kd.R_lower (Kd.R_new' (Kd.R_new' ho0 (Kd.R_lt (by (with_reducible repeat (first | apply Kd.R_alloc | apply Kd.R_drewN | apply Kd.R_drew)); exact HO248.out))) (Kd.R_lt (by (with_reducible repeat (first | apply Kd.R_alloc | apply Kd.R_drewN | apply Kd.R_drew)); exact HO251.out))) (below_size (by repeat (first | (with_reducible first | exact HB.out | apply below_alloc | apply pw_below_drewN | apply below_drew1) | exact HB.out)))); have n3_ := Aside0.mk (below_step (by repeat (first | (with_reducible first | exact HB.out | apply below_alloc | apply pw_below_drewN | apply below_drew1) | exact HB.out)) hb); clear HO248; clear HO251; clear HB; have HO248 := n0_; have HO251 := n1_; have HO256 := n2_; have HB := n3_; clear n0_ n1_ n2_ n3_; (try clear hb); (try clear hb2); (try clear hk); (try clear hi); (try clear ho0)) | ((with_reducible refine gate_dst (N := 17) rfl ?_); refine Kd.R_lit k28 _ 28 ?hg (N := 17) ?hd (xs := ([(⟨(⟨#[99, 112, 117]⟩ : ByteArray), 5⟩ : S28), (⟨(⟨#[109, 101, 109]⟩ : ByteArray), 2⟩ : S28)] : List (S28))) (inner := [.string (⟨#[99, 112, 117]⟩ : ByteArray), .int .i64 5, .string (⟨#[109, 101, 109]⟩ : ByteArray), .int .i64 2]) (ok := fun _ => True) (okp := fun _ => True) ?hr ?hp (fun _ hk => hk) trivial (Below.refl _ _) (Nat.le_refl _) (by simp) ?_; (case hd => rfl); (case hg => rfl); (case hr => first | (go_simp; done) | (go_simp; rfl)); (case hp => exact (Reps.c2 (show Kd.M k28 _ _ _ (⟨(⟨#[99, 112, 117]⟩ : ByteArray), 5⟩ : S28) [.string (⟨#[99, 112, 117]⟩ : ByteArray), .int .i64 5] from (k28_mkM _ _ _ (⟨(⟨#[99, 112, 117]⟩ : ByteArray), 5⟩ : S28) )) (Reps.c2 (show Kd.M k28 _ _ _ (⟨(⟨#[109, 101, 109]⟩ : ByteArray), 2⟩ : S28) [.string (⟨#[109, 101, 109]⟩ : ByteArray), .int .i64 2] from (k28_mkM _ _ _ (⟨(⟨#[109, 101, 109]⟩ : ByteArray), 2⟩ : S28) )) (Reps.none _ _)))); intro v258 w12 ho13 hb hg_ hnew_; clear hg_ hnew_; (first | rw [← Ny257.out] at ho13 | (simp only [Int.reduceToNat] at ho13; rw [← Ny257.out] at ho13)); have n0_ := Aside0.mk (Kd.R_elder' (by (with_reducible repeat (first | apply Kd.R_alloc | apply Kd.R_drewN | apply Kd.R_drew)); exact HO248.out) (Kd.R_base ho13) hb); have n1_ := Aside0.mk (Kd.R_elder' (by (with_reducible repeat (first | apply Kd.R_alloc | apply Kd.R_drewN | apply Kd.R_drew)); exact HO251.out) (Kd.R_base ho13) hb); have n2_ := Aside0.mk (Kd.R_elder' (by (with_reducible repeat (first | apply Kd.R_alloc | apply Kd.R_drewN | apply Kd.R_drew)); exact HO256.out) (Kd.R_base ho13) hb); have n3_ := Aside0.mk (Kd.R_lower (Kd.R_new' (Kd.R_new' (Kd.R_new' ho13 (Kd.R_lt (by (with_reducible repeat (first | apply Kd.R_alloc | apply Kd.R_drewN | apply Kd.R_drew)); exact HO248.out))) (Kd.R_lt (by (with_reducible repeat (first | apply Kd.R_alloc | apply Kd.R_drewN | apply Kd.R_drew)); exact HO251.out))) (Kd.R_lt (by (with_reducible repeat (first | apply Kd.R_alloc | apply Kd.R_drewN | apply Kd.R_drew)); exact HO256.out))) (below_size (by repeat (first | (with_reducible first | exact HB.out | apply below_alloc | apply pw_below_drewN | apply below_drew1) | exact HB.out)))); have n4_ := Aside0.mk (below_step (by repeat (first | (with_reducible first | exact HB.out | apply below_alloc | apply pw_below_drewN | apply below_drew1) | exact HB.out)) hb); clear HO248; clear HO251; clear HO256; clear HB; have HO248 := n0_; have HO251 := n1_; have HO256 := n2_; have HO259 := n3_; have HB := n4_; clear n0_ n1_ n2_ n3_ n4_; clear hb ho13; obtain ⟨Ao14, co14, eo14⟩ := Kd.R_slice HO256.out; subst eo14; obtain ⟨Ao15, co15, eo15⟩ := Kd.R_slice HO259.out; subst eo15) | ((with_reducible refine gate_callee (f := 21) rfl ?_); refine goesL_ (some 18) rfl rfl Try.func21 (by kernel_rfl) rfl #[.slice Ao14 t252.length co14, .slice Ao15 y257.length co15] rfl (by (try simp only [List.map_toArray, List.map_cons, List.map_nil]); first | done | rfl | (simp only [List.length_drop, List.length_take]; rfl)) ?_; (with_reducible refine (berthlaw02_Same.calls k _ _ t252 _ _ y257 true _ ?side1 ?side2 ?side3 ?side4 A2.out).mono ?_); (case side1 => repeat (first | exact (Kd.R_reads' HO256.out).2.2 | (with_reducible refine Kd.C_alloc ?_ _) | (with_reducible refine Kd.C_drewN ?_ _) | (with_reducible refine Kd.C_drew ?_))); (case side2 => exact (Kd.R_reads' HO256.out).2.1); (case side3 => repeat (first | exact (Kd.R_reads' HO259.out).2.2 | (with_reducible refine Kd.C_alloc ?_ _) | (with_reducible refine Kd.C_drewN ?_ _) | (with_reducible refine Kd.C_drew ?_))); (case side4 => exact (Kd.R_reads' HO259.out).2.1); rintro e w' ⟨rfl, ⟨nd, rfl⟩⟩; refine ⟨_, rfl, ?_⟩))
   go_ret
   exact ⟨by first | rfl | (simp [errW_none, errW_some] <;> rfl) | (simp [*, errW_none, errW_some] <;> rfl), by repeat (first | (with_reducible first | exact HB.out | apply below_alloc | apply pw_below_drewN | apply below_drew1) | exact HB.out)⟩
  ·
   rw [if_neg c4] at H
   have c4b0 : (t253.toList == ([] : List UInt8)) = false := beq_eq_false_iff_ne.mpr c4
   have c4b1 : (t253.toList != ([] : List UInt8)) = true := bne_iff_ne.mpr c4
   obtain rfl := Option.some.inj H
   go_enter Try.func19, Try.ntmps19
   go_wp2_with (first | ((with_reducible refine gate_dst (N := 6) rfl ?_); refine Kd.R_lit k28 _ 28 ?hg (N := 6) ?hd (xs := ([(⟨(⟨#[99, 112, 117]⟩ : ByteArray), 4⟩ : S28)] : List (S28))) (inner := [.string (⟨#[99, 112, 117]⟩ : ByteArray), .int .i64 4]) (ok := fun _ => True) (okp := fun _ => True) ?hr ?hp (fun _ hk => hk) trivial (Below.refl _ _) (Nat.le_refl _) (by simp) ?_; (case hd => rfl); (case hg => rfl); (case hr => first | (go_simp; done) | (go_simp; rfl)); (case hp => exact (Reps.c2 (show Kd.M k28 _ _ _ (⟨(⟨#[99, 112, 117]⟩ : ByteArray), 4⟩ : S28) [.string (⟨#[99, 112, 117]⟩ : ByteArray), .int .i64 4] from (k28_mkM _ _ _ (⟨(⟨#[99, 112, 117]⟩ : ByteArray), 4⟩ : S28) )) (Reps.none _ _))); intro v247 w16 ho17 hb hg_ hnew_; clear hg_ hnew_; (first | rw [← Ny246.out] at ho17 | (simp only [Int.reduceToNat] at ho17; rw [← Ny246.out] at ho17)); have n0_ := Aside0.mk (Kd.R_lower ho17 (below_size (by repeat (first | (with_reducible first | exact HB.out | apply below_alloc | apply pw_below_drewN | apply below_drew1) | exact HB.out)))); have n1_ := Aside0.mk (below_step (by repeat (first | (with_reducible first | exact HB.out | apply below_alloc | apply pw_below_drewN | apply below_drew1) | exact HB.out)) hb); clear HB; have HO248 := n0_; have HB := n1_; clear n0_ n1_; clear hb ho17) | ((with_reducible refine gate_dst (N := 9) rfl ?_); refine Kd.R_lit k28 _ 28 ?hg (N := 9) ?hd (xs := ([(⟨(⟨#[99, 112, 117]⟩ : ByteArray), 1⟩ : S28), (⟨(⟨#[109, 101, 109]⟩ : ByteArray), 2⟩ : S28)] : List (S28))) (inner := [.string (⟨#[99, 112, 117]⟩ : ByteArray), .int .i64 1, .string (⟨#[109, 101, 109]⟩ : ByteArray), .int .i64 2]) (ok := fun _ => True) (okp := fun _ => True) ?hr ?hp (fun _ hk => hk) trivial (Below.refl _ _) (Nat.le_refl _) (by simp) ?_; (case hd => rfl); (case hg => rfl); (case hr => first | (go_simp; done) | (go_simp; rfl)); (case hp => exact (Reps.c2 (show Kd.M k28 _ _ _ (⟨(⟨#[99, 112, 117]⟩ : ByteArray), 1⟩ : S28) [.string (⟨#[99, 112, 117]⟩ : ByteArray), .int .i64 1] from (k28_mkM _ _ _ (⟨(⟨#[99, 112, 117]⟩ : ByteArray), 1⟩ : S28) )) (Reps.c2 (show Kd.M k28 _ _ _ (⟨(⟨#[109, 101, 109]⟩ : ByteArray), 2⟩ : S28) [.string (⟨#[109, 101, 109]⟩ : ByteArray), .int .i64 2] from (k28_mkM _ _ _ (⟨(⟨#[109, 101, 109]⟩ : ByteArray), 2⟩ : S28) )) (Reps.none _ _)))); intro v250 w18 ho19 hb hg_ hnew_; clear hg_ hnew_; (first | rw [← Ny249.out] at ho19 | (simp only [Int.reduceToNat] at ho19; rw [← Ny249.out] at ho19)); have n0_ := Aside0.mk (Kd.R_elder' (by (with_reducible repeat (first | apply Kd.R_alloc | apply Kd.R_drewN | apply Kd.R_drew)); exact HO248.out) (Kd.R_base ho19) hb); have n1_ := Aside0.mk (Kd.R_lower (Kd.R_new' ho19 (Kd.R_lt (by (with_reducible repeat (first | apply Kd.R_alloc | apply Kd.R_drewN | apply Kd.R_drew)); exact HO248.out))) (below_size (by repeat (first | (with_reducible first | exact HB.out | apply below_alloc | apply pw_below_drewN | apply below_drew1) | exact HB.out)))); have n2_ := Aside0.mk (below_step (by repeat (first | (with_reducible first | exact HB.out | apply below_alloc | apply pw_below_drewN | apply below_drew1) | exact HB.out)) hb); clear HO248; clear HB; have HO248 := n0_; have HO251 := n1_; have HB := n2_; clear n0_ n1_ n2_; clear hb ho19; obtain ⟨Ao20, co20, eo20⟩ := Kd.R_slice HO248.out; subst eo20; obtain ⟨Ao21, co21, eo21⟩ := Kd.R_slice HO251.out; subst eo21) | ((with_reducible refine gate_callee (f := 20) rfl ?_); refine goesL_ (some 10) rfl rfl Try.func20 (by kernel_rfl) rfl #[.slice Ao20 y246.length co20, .slice Ao21 y249.length co21] rfl (by (try simp only [List.map_toArray, List.map_cons, List.map_nil]); first | done | rfl | (simp only [List.length_drop, List.length_take]; rfl)) ?_; (with_reducible refine (quant_Add.calls k _ _ y246 _ _ y249 t252 t253 t254 _ ?side1 ?side2 ?side3 ?side4 A1.out).mono ?_); (case side1 => repeat (first | exact (Kd.R_reads' HO248.out).2.2 | (with_reducible refine Kd.C_alloc ?_ _) | (with_reducible refine Kd.C_drewN ?_ _) | (with_reducible refine Kd.C_drew ?_))); (case side2 => exact (Kd.R_reads' HO248.out).2.1); (case side3 => repeat (first | exact (Kd.R_reads' HO251.out).2.2 | (with_reducible refine Kd.C_alloc ?_ _) | (with_reducible refine Kd.C_drewN ?_ _) | (with_reducible refine Kd.C_drew ?_))); (case side4 => exact (Kd.R_reads' HO251.out).2.1); rintro e w22 ⟨v255, rfl, ho0, hb⟩; refine ⟨_, rfl, ?_⟩; have n0_ := Aside0.mk (Kd.R_elder' (by (with_reducible repeat (first | apply Kd.R_alloc | apply Kd.R_drewN | apply Kd.R_drew)); exact HO248.out) (Kd.R_base ho0) hb); have n1_ := Aside0.mk (Kd.R_elder' (by (with_reducible repeat (first | apply Kd.R_alloc | apply Kd.R_drewN | apply Kd.R_drew)); exact HO251.out) (Kd.R_base ho0) hb); have n2_ := Aside0.mk (Kd.R_lower (Kd.R_new' (Kd.R_new' ho0 (Kd.R_lt (by (with_reducible repeat (first | apply Kd.R_alloc | apply Kd.R_drewN | apply Kd.R_drew)); exact HO248.out))) (Kd.R_lt (by (with_reducible repeat (first | apply Kd.R_alloc | apply Kd.R_drewN | apply Kd.R_drew)); exact HO251.out))) (below_size (by repeat (first | (with_reducible first | exact HB.out | apply below_alloc | apply pw_below_drewN | apply below_drew1) | exact HB.out)))); have n3_ := Aside0.mk (below_step (by repeat (first | (with_reducible first | exact HB.out | apply below_alloc | apply pw_below_drewN | apply below_drew1) | exact HB.out)) hb); clear HO248; clear HO251; clear HB; have HO248 := n0_; have HO251 := n1_; have HO256 := n2_; have HB := n3_; clear n0_ n1_ n2_ n3_; (try clear hb); (try clear hb2); (try clear hk); (try clear hi); (try clear ho0)) | ((with_reducible refine gate_dst (N := 17) rfl ?_); refine Kd.R_lit k28 _ 28 ?hg (N := 17) ?hd (xs := ([(⟨(⟨#[99, 112, 117]⟩ : ByteArray), 5⟩ : S28), (⟨(⟨#[109, 101, 109]⟩ : ByteArray), 2⟩ : S28)] : List (S28))) (inner := [.string (⟨#[99, 112, 117]⟩ : ByteArray), .int .i64 5, .string (⟨#[109, 101, 109]⟩ : ByteArray), .int .i64 2]) (ok := fun _ => True) (okp := fun _ => True) ?hr ?hp (fun _ hk => hk) trivial (Below.refl _ _) (Nat.le_refl _) (by simp) ?_; (case hd => rfl); (case hg => rfl); (case hr => first | (go_simp; done) | (go_simp; rfl)); (case hp => exact (Reps.c2 (show Kd.M k28 _ _ _ (⟨(⟨#[99, 112, 117]⟩ : ByteArray), 5⟩ : S28) [.string (⟨#[99, 112, 117]⟩ : ByteArray), .int .i64 5] from (k28_mkM _ _ _ (⟨(⟨#[99, 112, 117]⟩ : ByteArray), 5⟩ : S28) )) (Reps.c2 (show Kd.M k28 _ _ _ (⟨(⟨#[109, 101, 109]⟩ : ByteArray), 2⟩ : S28) [.string (⟨#[109, 101, 109]⟩ : ByteArray), .int .i64 2] from (k28_mkM _ _ _ (⟨(⟨#[109, 101, 109]⟩ : ByteArray), 2⟩ : S28) )) (Reps.none _ _)))); intro v258 w23 ho24 hb hg_ hnew_; clear hg_ hnew_; (first | rw [← Ny257.out] at ho24 | (simp only [Int.reduceToNat] at ho24; rw [← Ny257.out] at ho24)); have n0_ := Aside0.mk (Kd.R_elder' (by (with_reducible repeat (first | apply Kd.R_alloc | apply Kd.R_drewN | apply Kd.R_drew)); exact HO248.out) (Kd.R_base ho24) hb); have n1_ := Aside0.mk (Kd.R_elder' (by (with_reducible repeat (first | apply Kd.R_alloc | apply Kd.R_drewN | apply Kd.R_drew)); exact HO251.out) (Kd.R_base ho24) hb); have n2_ := Aside0.mk (Kd.R_elder' (by (with_reducible repeat (first | apply Kd.R_alloc | apply Kd.R_drewN | apply Kd.R_drew)); exact HO256.out) (Kd.R_base ho24) hb); have n3_ := Aside0.mk (Kd.R_lower (Kd.R_new' (Kd.R_new' (Kd.R_new' ho24 (Kd.R_lt (by (with_reducible repeat (first | apply Kd.R_alloc | apply Kd.R_drewN | apply Kd.R_drew)); exact HO248.out))) (Kd.R_lt (by (with_reducible repeat (first | apply Kd.R_alloc | apply Kd.R_drewN | apply Kd.R_drew)); exact HO251.out))) (Kd.R_lt (by (with_reducible repeat (first | apply Kd.R_alloc | apply Kd.R_drewN | apply Kd.R_drew)); exact HO256.out))) (below_size (by repeat (first | (with_reducible first | exact HB.out | apply below_alloc | apply pw_below_drewN | apply below_drew1) | exact HB.out)))); have n4_ := Aside0.mk (below_step (by repeat (first | (with_reducible first | exact HB.out | apply below_alloc | apply pw_below_drewN | apply below_drew1) | exact HB.out)) hb); clear HO248; clear HO251; clear HO256; clear HB; have HO248 := n0_; have HO251 := n1_; have HO256 := n2_; have HO259 := n3_; have HB := n4_; clear n0_ n1_ n2_ n3_ n4_; clear hb ho24; obtain ⟨Ao25, co25, eo25⟩ := Kd.R_slice HO256.out; subst eo25; obtain ⟨Ao26, co26, eo26⟩ := Kd.R_slice HO259.out; subst eo26) | ((with_reducible refine gate_callee (f := 21) rfl ?_); refine goesL_ (some 18) rfl rfl Try.func21 (by kernel_rfl) rfl #[.slice Ao25 t252.length co25, .slice Ao26 y257.length co26] rfl (by (try simp only [List.map_toArray, List.map_cons, List.map_nil]); first | done | rfl | (simp only [List.length_drop, List.length_take]; rfl)) ?_; (with_reducible refine (berthlaw02_Same.calls k _ _ t252 _ _ y257 true _ ?side1 ?side2 ?side3 ?side4 A2.out).mono ?_); (case side1 => repeat (first | exact (Kd.R_reads' HO256.out).2.2 | (with_reducible refine Kd.C_alloc ?_ _) | (with_reducible refine Kd.C_drewN ?_ _) | (with_reducible refine Kd.C_drew ?_))); (case side2 => exact (Kd.R_reads' HO256.out).2.1); (case side3 => repeat (first | exact (Kd.R_reads' HO259.out).2.2 | (with_reducible refine Kd.C_alloc ?_ _) | (with_reducible refine Kd.C_drewN ?_ _) | (with_reducible refine Kd.C_drew ?_))); (case side4 => exact (Kd.R_reads' HO259.out).2.1); rintro e w' ⟨rfl, ⟨nd, rfl⟩⟩; refine ⟨_, rfl, ?_⟩))
   go_ret
   exact ⟨by first | rfl | (simp [errW_none, errW_some] <;> rfl) | (simp [*, errW_none, errW_some] <;> rfl), by repeat (first | (with_reducible first | exact HB.out | apply below_alloc | apply pw_below_drewN | apply below_drew1) | exact HB.out)⟩
 ·
  replace c3 := Bool.eq_false_iff.mpr c3
  subst c3
  have H1 : (some false) = some r := by rw [if_neg (show ¬ (false = true) by decide)] at H; exact H
  clear H
  have H := H1
  clear H1
  obtain rfl := Option.some.inj H
  go_enter Try.func19, Try.ntmps19
  go_wp2_with (first | ((with_reducible refine gate_dst (N := 6) rfl ?_); refine Kd.R_lit k28 _ 28 ?hg (N := 6) ?hd (xs := ([(⟨(⟨#[99, 112, 117]⟩ : ByteArray), 4⟩ : S28)] : List (S28))) (inner := [.string (⟨#[99, 112, 117]⟩ : ByteArray), .int .i64 4]) (ok := fun _ => True) (okp := fun _ => True) ?hr ?hp (fun _ hk => hk) trivial (Below.refl _ _) (Nat.le_refl _) (by simp) ?_; (case hd => rfl); (case hg => rfl); (case hr => first | (go_simp; done) | (go_simp; rfl)); (case hp => exact (Reps.c2 (show Kd.M k28 _ _ _ (⟨(⟨#[99, 112, 117]⟩ : ByteArray), 4⟩ : S28) [.string (⟨#[99, 112, 117]⟩ : ByteArray), .int .i64 4] from (k28_mkM _ _ _ (⟨(⟨#[99, 112, 117]⟩ : ByteArray), 4⟩ : S28) )) (Reps.none _ _))); intro v247 w27 ho28 hb hg_ hnew_; clear hg_ hnew_; (first | rw [← Ny246.out] at ho28 | (simp only [Int.reduceToNat] at ho28; rw [← Ny246.out] at ho28)); have n0_ := Aside0.mk (Kd.R_lower ho28 (below_size (by repeat (first | (with_reducible first | exact HB.out | apply below_alloc | apply pw_below_drewN | apply below_drew1) | exact HB.out)))); have n1_ := Aside0.mk (below_step (by repeat (first | (with_reducible first | exact HB.out | apply below_alloc | apply pw_below_drewN | apply below_drew1) | exact HB.out)) hb); clear HB; have HO248 := n0_; have HB := n1_; clear n0_ n1_; clear hb ho28) | ((with_reducible refine gate_dst (N := 9) rfl ?_); refine Kd.R_lit k28 _ 28 ?hg (N := 9) ?hd (xs := ([(⟨(⟨#[99, 112, 117]⟩ : ByteArray), 1⟩ : S28), (⟨(⟨#[109, 101, 109]⟩ : ByteArray), 2⟩ : S28)] : List (S28))) (inner := [.string (⟨#[99, 112, 117]⟩ : ByteArray), .int .i64 1, .string (⟨#[109, 101, 109]⟩ : ByteArray), .int .i64 2]) (ok := fun _ => True) (okp := fun _ => True) ?hr ?hp (fun _ hk => hk) trivial (Below.refl _ _) (Nat.le_refl _) (by simp) ?_; (case hd => rfl); (case hg => rfl); (case hr => first | (go_simp; done) | (go_simp; rfl)); (case hp => exact (Reps.c2 (show Kd.M k28 _ _ _ (⟨(⟨#[99, 112, 117]⟩ : ByteArray), 1⟩ : S28) [.string (⟨#[99, 112, 117]⟩ : ByteArray), .int .i64 1] from (k28_mkM _ _ _ (⟨(⟨#[99, 112, 117]⟩ : ByteArray), 1⟩ : S28) )) (Reps.c2 (show Kd.M k28 _ _ _ (⟨(⟨#[109, 101, 109]⟩ : ByteArray), 2⟩ : S28) [.string (⟨#[109, 101, 109]⟩ : ByteArray), .int .i64 2] from (k28_mkM _ _ _ (⟨(⟨#[109, 101, 109]⟩ : ByteArray), 2⟩ : S28) )) (Reps.none _ _)))); intro v250 w29 ho30 hb hg_ hnew_; clear hg_ hnew_; (first | rw [← Ny249.out] at ho30 | (simp only [Int.reduceToNat] at ho30; rw [← Ny249.out] at ho30)); have n0_ := Aside0.mk (Kd.R_elder' (by (with_reducible repeat (first | apply Kd.R_alloc | apply Kd.R_drewN | apply Kd.R_drew)); exact HO248.out) (Kd.R_base ho30) hb); have n1_ := Aside0.mk (Kd.R_lower (Kd.R_new' ho30 (Kd.R_lt (by (with_reducible repeat (first | apply Kd.R_alloc | apply Kd.R_drewN | apply Kd.R_drew)); exact HO248.out))) (below_size (by repeat (first | (with_reducible first | exact HB.out | apply below_alloc | apply pw_below_drewN | apply below_drew1) | exact HB.out)))); have n2_ := Aside0.mk (below_step (by repeat (first | (with_reducible first | exact HB.out | apply below_alloc | apply pw_below_drewN | apply below_drew1) | exact HB.out)) hb); clear HO248; clear HB; have HO248 := n0_; have HO251 := n1_; have HB := n2_; clear n0_ n1_ n2_; clear hb ho30; obtain ⟨Ao31, co31, eo31⟩ := Kd.R_slice HO248.out; subst eo31; obtain ⟨Ao32, co32, eo32⟩ := Kd.R_slice HO251.out; subst eo32) | ((with_reducible refine gate_callee (f := 20) rfl ?_); refine goesL_ (some 10) rfl rfl Try.func20 (by kernel_rfl) rfl #[.slice Ao31 y246.length co31, .slice Ao32 y249.length co32] rfl (by (try simp only [List.map_toArray, List.map_cons, List.map_nil]); first | done | rfl | (simp only [List.length_drop, List.length_take]; rfl)) ?_; (with_reducible refine (quant_Add.calls k _ _ y246 _ _ y249 t252 t253 t254 _ ?side1 ?side2 ?side3 ?side4 A1.out).mono ?_); (case side1 => repeat (first | exact (Kd.R_reads' HO248.out).2.2 | (with_reducible refine Kd.C_alloc ?_ _) | (with_reducible refine Kd.C_drewN ?_ _) | (with_reducible refine Kd.C_drew ?_))); (case side2 => exact (Kd.R_reads' HO248.out).2.1); (case side3 => repeat (first | exact (Kd.R_reads' HO251.out).2.2 | (with_reducible refine Kd.C_alloc ?_ _) | (with_reducible refine Kd.C_drewN ?_ _) | (with_reducible refine Kd.C_drew ?_))); (case side4 => exact (Kd.R_reads' HO251.out).2.1); rintro e w33 ⟨v255, rfl, ho0, hb⟩; refine ⟨_, rfl, ?_⟩; have n0_ := Aside0.mk (Kd.R_elder' (by (with_reducible repeat (first | apply Kd.R_alloc | apply Kd.R_drewN | apply Kd.R_drew)); exact HO248.out) (Kd.R_base ho0) hb); have n1_ := Aside0.mk (Kd.R_elder' (by (with_reducible repeat (first | apply Kd.R_alloc | apply Kd.R_drewN | apply Kd.R_drew)); exact HO251.out) (Kd.R_base ho0) hb); have n2_ := Aside0.mk (Kd.R_lower (Kd.R_new' (Kd.R_new' ho0 (Kd.R_lt (by (with_reducible repeat (first | apply Kd.R_alloc | apply Kd.R_drewN | apply Kd.R_drew)); exact HO248.out))) (Kd.R_lt (by (with_reducible repeat (first | apply Kd.R_alloc | apply Kd.R_drewN | apply Kd.R_drew)); exact HO251.out))) (below_size (by repeat (first | (with_reducible first | exact HB.out | apply below_alloc | apply pw_below_drewN | apply below_drew1) | exact HB.out)))); have n3_ := Aside0.mk (below_step (by repeat (first | (with_reducible first | exact HB.out | apply below_alloc | apply pw_below_drewN | apply below_drew1) | exact HB.out)) hb); clear HO248; clear HO251; clear HB; have HO248 := n0_; have HO251 := n1_; have HO256 := n2_; have HB := n3_; clear n0_ n1_ n2_ n3_; (try clear hb); (try clear hb2); (try clear hk); (try clear hi); (try clear ho0)) | ((with_reducible refine gate_dst (N := 17) rfl ?_); refine Kd.R_lit k28 _ 28 ?hg (N := 17) ?hd (xs := ([(⟨(⟨#[99, 112, 117]⟩ : ByteArray), 5⟩ : S28), (⟨(⟨#[109, 101, 109]⟩ : ByteArray), 2⟩ : S28)] : List (S28))) (inner := [.string (⟨#[99, 112, 117]⟩ : ByteArray), .int .i64 5, .string (⟨#[109, 101, 109]⟩ : ByteArray), .int .i64 2]) (ok := fun _ => True) (okp := fun _ => True) ?hr ?hp (fun _ hk => hk) trivial (Below.refl _ _) (Nat.le_refl _) (by simp) ?_; (case hd => rfl); (case hg => rfl); (case hr => first | (go_simp; done) | (go_simp; rfl)); (case hp => exact (Reps.c2 (show Kd.M k28 _ _ _ (⟨(⟨#[99, 112, 117]⟩ : ByteArray), 5⟩ : S28) [.string (⟨#[99, 112, 117]⟩ : ByteArray), .int .i64 5] from (k28_mkM _ _ _ (⟨(⟨#[99, 112, 117]⟩ : ByteArray), 5⟩ : S28) )) (Reps.c2 (show Kd.M k28 _ _ _ (⟨(⟨#[109, 101, 109]⟩ : ByteArray), 2⟩ : S28) [.string (⟨#[109, 101, 109]⟩ : ByteArray), .int .i64 2] from (k28_mkM _ _ _ (⟨(⟨#[109, 101, 109]⟩ : ByteArray), 2⟩ : S28) )) (Reps.none _ _)))); intro v258 w34 ho35 hb hg_ hnew_; clear hg_ hnew_; (first | rw [← Ny257.out] at ho35 | (simp only [Int.reduceToNat] at ho35; rw [← Ny257.out] at ho35)); have n0_ := Aside0.mk (Kd.R_elder' (by (with_reducible repeat (first | apply Kd.R_alloc | apply Kd.R_drewN | apply Kd.R_drew)); exact HO248.out) (Kd.R_base ho35) hb); have n1_ := Aside0.mk (Kd.R_elder' (by (with_reducible repeat (first | apply Kd.R_alloc | apply Kd.R_drewN | apply Kd.R_drew)); exact HO251.out) (Kd.R_base ho35) hb); have n2_ := Aside0.mk (Kd.R_elder' (by (with_reducible repeat (first | apply Kd.R_alloc | apply Kd.R_drewN | apply Kd.R_drew)); exact HO256.out) (Kd.R_base ho35) hb); have n3_ := Aside0.mk (Kd.R_lower (Kd.R_new' (Kd.R_new' (Kd.R_new' ho35 (Kd.R_lt (by (with_reducible repeat (first | apply Kd.R_alloc | apply Kd.R_drewN | apply Kd.R_drew)); exact HO248.out))) (Kd.R_lt (by (with_reducible repeat (first | apply Kd.R_alloc | apply Kd.R_drewN | apply Kd.R_drew)); exact HO251.out))) (Kd.R_lt (by (with_reducible repeat (first | apply Kd.R_alloc | apply Kd.R_drewN | apply Kd.R_drew)); exact HO256.out))) (below_size (by repeat (first | (with_reducible first | exact HB.out | apply below_alloc | apply pw_below_drewN | apply below_drew1) | exact HB.out)))); have n4_ := Aside0.mk (below_step (by repeat (first | (with_reducible first | exact HB.out | apply below_alloc | apply pw_below_drewN | apply below_drew1) | exact HB.out)) hb); clear HO248; clear HO251; clear HO256; clear HB; have HO248 := n0_; have HO251 := n1_; have HO256 := n2_; have HO259 := n3_; have HB := n4_; clear n0_ n1_ n2_ n3_ n4_; clear hb ho35; obtain ⟨Ao36, co36, eo36⟩ := Kd.R_slice HO256.out; subst eo36; obtain ⟨Ao37, co37, eo37⟩ := Kd.R_slice HO259.out; subst eo37) | ((with_reducible refine gate_callee (f := 21) rfl ?_); refine goesL_ (some 18) rfl rfl Try.func21 (by kernel_rfl) rfl #[.slice Ao36 t252.length co36, .slice Ao37 y257.length co37] rfl (by (try simp only [List.map_toArray, List.map_cons, List.map_nil]); first | done | rfl | (simp only [List.length_drop, List.length_take]; rfl)) ?_; (with_reducible refine (berthlaw02_Same.calls k _ _ t252 _ _ y257 false _ ?side1 ?side2 ?side3 ?side4 A2.out).mono ?_); (case side1 => repeat (first | exact (Kd.R_reads' HO256.out).2.2 | (with_reducible refine Kd.C_alloc ?_ _) | (with_reducible refine Kd.C_drewN ?_ _) | (with_reducible refine Kd.C_drew ?_))); (case side2 => exact (Kd.R_reads' HO256.out).2.1); (case side3 => repeat (first | exact (Kd.R_reads' HO259.out).2.2 | (with_reducible refine Kd.C_alloc ?_ _) | (with_reducible refine Kd.C_drewN ?_ _) | (with_reducible refine Kd.C_drew ?_))); (case side4 => exact (Kd.R_reads' HO259.out).2.1); rintro e w' ⟨rfl, ⟨nd, rfl⟩⟩; refine ⟨_, rfl, ?_⟩))
  go_ret
  exact ⟨by first | rfl | (simp [errW_none, errW_some] <;> rfl) | (simp [*, errW_none, errW_some] <;> rfl), by repeat (first | (with_reducible first | exact HB.out | apply below_alloc | apply pw_below_drewN | apply below_drew1) | exact HB.out)⟩
def quant_Sub.l0 : Nat → List (S28) → List (S28) → List (S28) → List ByteArray → Int → Int → Option ((List (S28)) × ByteArray × Int)
  | 0, _, _, _, _, _, _ => none
  | k + 1, x0, x1, x8, x23, x24, x25 => if x25 < x24 then (if 0 ≤ x25 then (if x25 < (x23.length : Int) then ((quant_Get.f k x0 (rdOf ByteArray.empty x23 x25)).bind fun t271 => ((quant_Get.f k x1 (rdOf ByteArray.empty x23 x25)).bind fun t272 => (if (wrap64 (t271 - t272)) < 0 then (some (([] : List (S28)), rdOf ByteArray.empty x23 x25, 29)) else (if (wrap64 (t271 - t272)) > 0 then (if x8.length < 5864062014805 then (quant_Sub.l0 k x0 x1 (x8 ++ [(⟨rdOf ByteArray.empty x23 x25, wrap64 (t271 - t272)⟩ : S28)]) x23 x24 (wrap64 (x25 + 1))) else (none)) else (quant_Sub.l0 k x0 x1 x8 x23 x24 (wrap64 (x25 + 1))))))) else (none)) else (none)) else (some (x8, (⟨#[]⟩ : ByteArray), 0))
def quant_Sub.f (k : Nat) (l0 : List (S28)) (l1 : List (S28)) : Option ((List (S28)) × ByteArray × Int) := (quant_Check.f k l0).bind fun t261 => ((quant_Check.f k l1).bind fun t262 => ((api_Errno.f k (([t261, t262] : List Int))).bind fun t266 => (if t266 = 0 then ((quant_both.f k l0 l1).bind fun t267 => (quant_Sub.l0 k l0 l1 ([] : List (S28)) t267 (t267.length : Int) 0)) else (some (([] : List (S28)), (⟨#[]⟩ : ByteArray), t266)))))
theorem quant_Sub.mono_l : ∀ k, (∀ y0 y1 y2 y3 y4 y5, LeO (quant_Sub.l0 k y0 y1 y2 y3 y4 y5) (quant_Sub.l0 (k + 1) y0 y1 y2 y3 y4 y5))
  | 0 => fun _ _ _ _ _ _ r h => by simp [quant_Sub.l0] at h
  | k + 1 => by
    have ih0 := quant_Sub.mono_l k
    · intro y0 y1 y2 y3 y4 y5
      unfold quant_Sub.l0
      repeat' first
      | (with_reducible exact ih0 _ _ _ _ _ _)
      | (with_reducible exact api_Errno.mono _ _)
      | (with_reducible exact quant_Check.mono _ _)
      | (with_reducible exact quant_Get.mono _ _ _)
      | (with_reducible exact quant_both.mono _ _ _)
      | (with_reducible exact LeO.refl _)
      | (with_reducible exact LeO.none _)
      | (with_reducible refine LeO.ite ?_ ?_)
      | (with_reducible refine LeO.bind ?_ (fun _ => ?_))
      | exact ih0 _ _ _ _ _ _
      | exact api_Errno.mono _ _
      | exact quant_Check.mono _ _
      | exact quant_Get.mono _ _ _
      | exact quant_both.mono _ _ _
      | exact LeO.none _
      | refine LeO.ite ?_ ?_
      | refine LeO.bind ?_ (fun _ => ?_)
theorem quant_Sub.mono : ∀ a0 a1 k, LeO (quant_Sub.f k a0 a1) (quant_Sub.f (k + 1) a0 a1) := by
  intro a0 a1 k
  have ih0 := quant_Sub.mono_l k
  unfold quant_Sub.f
  repeat' first
      | (with_reducible exact ih0 _ _ _ _ _ _)
      | (with_reducible exact api_Errno.mono _ _)
      | (with_reducible exact quant_Check.mono _ _)
      | (with_reducible exact quant_Get.mono _ _ _)
      | (with_reducible exact quant_both.mono _ _ _)
      | (with_reducible exact LeO.refl _)
      | (with_reducible exact LeO.none _)
      | (with_reducible refine LeO.ite ?_ ?_)
      | (with_reducible refine LeO.bind ?_ (fun _ => ?_))
      | exact ih0 _ _ _ _ _ _
      | exact api_Errno.mono _ _
      | exact quant_Check.mono _ _
      | exact quant_Get.mono _ _ _
      | exact quant_both.mono _ _ _
      | exact LeO.none _
      | refine LeO.ite ?_ ?_
      | refine LeO.bind ?_ (fun _ => ?_)
set_option maxHeartbeats 8000000 in
set_option maxRecDepth 100000 in
theorem quant_Sub.calls (k : Nat) (A0 : Option Addr) (c0 : Nat) (l0 : List (S28)) (A1 : Option Addr) (c1 : Nat) (l1 : List (S28)) (r1 : List (S28)) (r2 : ByteArray) (r3 : Int) (w : World) (hr0 : Kd.C k28 w A0 l0.length l0) (hc0 : l0.length ≤ c0) (hr1 : Kd.C k28 w A1 l1.length l1) (hc1 : l1.length ≤ c1) (h : quant_Sub.f k l0 l1 = some (r1, r2, r3)) :
 Calls Try.prog 22 #[.slice A0 l0.length c0, .slice A1 l1.length c1] w fun e w' => ∃ v0_ : Value, e = .returned (.tuple #[v0_, .string r2, .int .i64 r3]) ∧ Kd.R k28 28 w' w.heap.size (fun _ => True) v0_ r1 ∧ Below w.heap.size w w' := by
 have hu28 := Try.underlying28
 have HR0 := Aside0.mk hr0
 have HC0 := Aside0.mk hc0
 clear hr0 hc0
 have HR1 := Aside0.mk hr1
 have HC1 := Aside0.mk hc1
 clear hr1 hc1
 have HB := Aside0.mk (Below.refl w.heap.size w)
 have H : ((quant_Check.f k l0).bind fun t261 => ((quant_Check.f k l1).bind fun t262 => ((api_Errno.f k (([t261, t262] : List Int))).bind fun t266 => (if t266 = 0 then ((quant_both.f k l0 l1).bind fun t267 => (quant_Sub.l0 k l0 l1 ([] : List (S28)) t267 (t267.length : Int) 0)) else (some (([] : List (S28)), (⟨#[]⟩ : ByteArray), t266)))))) = some (r1, r2, r3) := h
 clear h
 replace H := Option.bind_eq_some_iff.mp H
 obtain ⟨t261, A30, H⟩ := H
 replace H : ((quant_Check.f k l1).bind fun t262 => ((api_Errno.f k (([t261, t262] : List Int))).bind fun t266 => (if t266 = 0 then ((quant_both.f k l0 l1).bind fun t267 => (quant_Sub.l0 k l0 l1 ([] : List (S28)) t267 (t267.length : Int) 0)) else (some (([] : List (S28)), (⟨#[]⟩ : ByteArray), t266))))) = some (r1, r2, r3) := H
 have A3 := Aside0.mk A30
 clear A30
 replace H := Option.bind_eq_some_iff.mp H
 obtain ⟨t262, A40, H⟩ := H
 replace H : ((api_Errno.f k (([t261, t262] : List Int))).bind fun t266 => (if t266 = 0 then ((quant_both.f k l0 l1).bind fun t267 => (quant_Sub.l0 k l0 l1 ([] : List (S28)) t267 (t267.length : Int) 0)) else (some (([] : List (S28)), (⟨#[]⟩ : ByteArray), t266)))) = some (r1, r2, r3) := H
 have A4 := Aside0.mk A40
 clear A40
 obtain ⟨y263, hy263⟩ : ∃ y_ : List Int, y_ = (([t261, t262] : List Int)) := ⟨_, rfl⟩
 replace H : ((api_Errno.f k y263).bind fun t266 => (if t266 = 0 then ((quant_both.f k l0 l1).bind fun t267 => (quant_Sub.l0 k l0 l1 ([] : List (S28)) t267 (t267.length : Int) 0)) else (some (([] : List (S28)), (⟨#[]⟩ : ByteArray), t266)))) = some (r1, r2, r3) := by first | (rw [hy263]; with_reducible exact H) | (have H2_ := (Option.bind_some _ _).symm.trans H; rw [hy263]; with_reducible exact H2_) | (have H2_ := (Option.bind_some _ _).symm.trans H; with_reducible exact H2_) | with_reducible exact H | (rw [hy263]; exact H) | exact H
 have Ny263 := Aside0.mk hy263
 clear hy263
 replace H := Option.bind_eq_some_iff.mp H
 obtain ⟨t266, A50, H⟩ := H
 replace H : (if t266 = 0 then ((quant_both.f k l0 l1).bind fun t267 => (quant_Sub.l0 k l0 l1 ([] : List (S28)) t267 (t267.length : Int) 0)) else (some (([] : List (S28)), (⟨#[]⟩ : ByteArray), t266))) = some (r1, r2, r3) := H
 have A5 := Aside0.mk A50
 clear A50
 by_cases c6 : t266 = 0
 ·
  rw [if_pos c6] at H
  have c6b0 : (t266 == 0) = true := beq_iff_eq.mpr c6
  have c6b1 : (t266 != 0) = false := bne_eq_false_iff_eq.mpr c6
  clear c6
  replace H := Option.bind_eq_some_iff.mp H
  obtain ⟨t267, A70, H⟩ := H
  replace H : (quant_Sub.l0 k l0 l1 ([] : List (S28)) t267 (t267.length : Int) 0) = some (r1, r2, r3) := H
  have A7 := Aside0.mk A70
  clear A70
  have H' := Aside0.mk H
  clear H
  go_enter Try.func22, Try.ntmps22
  go_wp2_with (first | ((with_reducible refine gate_callee (f := 11) rfl ?_); refine goesL_ (some 13) rfl rfl Try.func11 (by kernel_rfl) rfl #[.slice A0 l0.length c0] rfl (by (try simp only [List.map_toArray, List.map_cons, List.map_nil]); first | done | rfl | (simp only [List.length_drop, List.length_take]; rfl)) ?_; (with_reducible refine (quant_Check.calls k _ _ l0 t261 _ ?side1 ?side2 A3.out).mono ?_); (case side1 => repeat (first | exact HR0.out | (with_reducible refine Kd.C_alloc ?_ _) | (with_reducible refine Kd.C_drewN ?_ _) | (with_reducible refine Kd.C_drew ?_))); (case side2 => exact HC0.out); rintro e w8 ⟨rfl, hb⟩; refine ⟨_, rfl, ?_⟩; have n0_ := Aside0.mk (below_step (by repeat (first | (with_reducible first | exact HB.out | apply below_alloc | apply pw_below_drewN | apply below_drew1) | exact HB.out)) hb); clear HB; have HB := n0_; clear n0_; (try clear hb); (try clear hb2); (try clear hk); (try clear hi)) | ((with_reducible refine gate_callee (f := 11) rfl ?_); refine goesL_ (some 15) rfl rfl Try.func11 (by kernel_rfl) rfl #[.slice A1 l1.length c1] rfl (by (try simp only [List.map_toArray, List.map_cons, List.map_nil]); first | done | rfl | (simp only [List.length_drop, List.length_take]; rfl)) ?_; (with_reducible refine (quant_Check.calls k _ _ l1 t262 _ ?side1 ?side2 A4.out).mono ?_); (case side1 => repeat (first | exact (Kd.C_below HR1.out HB.out) | (with_reducible refine Kd.C_alloc ?_ _) | (with_reducible refine Kd.C_drewN ?_ _) | (with_reducible refine Kd.C_drew ?_))); (case side2 => exact HC1.out); rintro e w9 ⟨rfl, hb⟩; refine ⟨_, rfl, ?_⟩; have n0_ := Aside0.mk (below_step (by repeat (first | (with_reducible first | exact HB.out | apply below_alloc | apply pw_below_drewN | apply below_drew1) | exact HB.out)) hb); clear HB; have HB := n0_; clear n0_; (try clear hb); (try clear hb2); (try clear hk); (try clear hi)) | ((with_reducible refine gate_dst (N := 16) rfl ?_); refine Kd.R_lit (Kd.int .i64) _ 24 ?hg (N := 16) ?hd (xs := ([t261, t262] : List Int)) (inner := [.int .i64 t261, .int .i64 t262]) (ok := fun _ => True) (okp := fun _ => True) ?hr ?hp (fun _ hk => hk) trivial (Below.refl _ _) (Nat.le_refl _) (by simp) ?_; (case hd => rfl); (case hg => rfl); (case hr => first | (go_simp; done) | (go_simp; rfl)); (case hp => exact (Reps.one (show Kd.M (Kd.int .i64) _ _ _ t261 [.int .i64 t261] from rfl) (Reps.one (show Kd.M (Kd.int .i64) _ _ _ t262 [.int .i64 t262] from rfl) (Reps.none _ _)))); intro v264 w10 ho11 hb hg_ hnew_; clear hg_ hnew_; (first | rw [← Ny263.out] at ho11 | (simp only [Int.reduceToNat] at ho11; rw [← Ny263.out] at ho11)); have n0_ := Aside0.mk (Kd.R_lower ho11 (below_size (by repeat (first | (with_reducible first | exact HB.out | apply below_alloc | apply pw_below_drewN | apply below_drew1) | exact HB.out)))); have n1_ := Aside0.mk (below_step (by repeat (first | (with_reducible first | exact HB.out | apply below_alloc | apply pw_below_drewN | apply below_drew1) | exact HB.out)) hb); clear HB; have HO265 := n0_; have HB := n1_; clear n0_ n1_; clear hb ho11; obtain ⟨Ao12, co12, eo12⟩ := Kd.R_slice HO265.out; subst eo12) | ((with_reducible refine gate_callee (f := 24) rfl ?_); refine goesL_ (some 17) rfl rfl Try.func24 (by kernel_rfl) rfl #[.slice Ao12 y263.length co12] rfl (by (try simp only [List.map_toArray, List.map_cons, List.map_nil]); first | done | rfl | (simp only [List.length_drop, List.length_take]; rfl)) ?_; (with_reducible refine (api_Errno.calls k _ _ y263 t266 _ ?side1 ?side2 A5.out).mono ?_); (case side1 => repeat (first | exact (Kd.R_reads' HO265.out).2.2 | (with_reducible refine Kd.C_alloc ?_ _) | (with_reducible refine Kd.C_drewN ?_ _) | (with_reducible refine Kd.C_drew ?_))); (case side2 => exact (Kd.R_reads' HO265.out).2.1); rintro e w' ⟨rfl, ⟨nd, rfl⟩⟩; refine ⟨_, rfl, ?_⟩) | ((with_reducible refine gate_callee (f := 28) rfl ?_); refine goesL_ (some 23) rfl rfl Try.func28 (by kernel_rfl) rfl #[.slice A0 l0.length c0, .slice A1 l1.length c1] rfl (by (try simp only [List.map_toArray, List.map_cons, List.map_nil]); first | done | rfl | (simp only [List.length_drop, List.length_take]; rfl)) ?_; (with_reducible refine (quant_both.calls k (fun k_ => k_ < w.heap.size) _ _ l0 (fun k_ => k_ < w.heap.size) _ _ l1 t267 _ ?side1 ?side2 A7.out).mono ?_); (case side1 => exact Kd.V_mk HC0.out (Kd.F_below (Kd.C_F k28_heap HR0.out) (by repeat (first | (with_reducible first | exact HB.out | apply below_alloc | apply pw_below_drewN | apply below_drew1) | exact HB.out)))); (case side2 => exact Kd.V_mk HC1.out (Kd.F_below (Kd.C_F k28_heap HR1.out) (by repeat (first | (with_reducible first | exact HB.out | apply below_alloc | apply pw_below_drewN | apply below_drew1) | exact HB.out)))); rintro e w13 ⟨v268, rfl, ho0, hb⟩; refine ⟨_, rfl, ?_⟩; have n0_ := Aside0.mk (Kd.R_below (by (with_reducible repeat (first | apply Kd.R_alloc | apply Kd.R_drewN | apply Kd.R_drew)); exact HO265.out) hb); have n1_ := Aside0.mk (Kd.R_lower (Kd.R_mono (ok' := fun k_ => True) ho0 (fun _ hk_ => trivial)) (below_size (by repeat (first | (with_reducible first | exact HB.out | apply below_alloc | apply pw_below_drewN | apply below_drew1) | exact HB.out)))); have n2_ := Aside0.mk (below_step (by repeat (first | (with_reducible first | exact HB.out | apply below_alloc | apply pw_below_drewN | apply below_drew1) | exact HB.out)) hb); clear HO265; clear HB; have HO265 := n0_; have HO269 := n1_; have HB := n2_; clear n0_ n1_ n2_; (try clear hb); (try clear hb2); (try clear hk); (try clear hi); (try clear ho0); obtain ⟨Ao14, co14, eo14⟩ := Kd.R_slice HO269.out; subst eo14))
  go_loopg [8, 25] k (fun kq v8 v25 w' => ∃ (x8_1 : List (S28)) (x25_1 : Int), v25 = .int .i64 x25_1 ∧ Aside0 (quant_Sub.l0 kq l0 l1 x8_1 t267 (t267.length : Int) x25_1 = some (r1, r2, r3)) ∧ Aside0 (kq ≤ k) ∧ Aside0 (Kd.R k28 28 w' w.heap.size (fun _ => True) v8 x8_1) ∧ Aside0 (Kd.R Kd.string 9 w' w.heap.size (fun _ => True) (.slice Ao14 t267.length co14) t267) ∧ Aside0 (Below w.heap.size w w'))
  case atStart => exact ⟨(([] : List (S28))), (0), (by first | rfl | (simp; done) | (simp [*]; done) | (simp only [i64_w]; done) | (simp [i64_w, Int.tdiv_eq_ediv_of_nonneg]; done)), H', ⟨Nat.le_refl _⟩, ⟨by first | exact Kd.R_nil _ _ _ _ _ | exact Kd.N_nil _ _ _ _ _ | exact Kd.V_nil _ _ _ _ _ | exact Kd.Q_nil _ _ _ _ _ | exact Kd.S_nil _ _ _ _ _⟩, ⟨by (with_reducible repeat (first | apply Kd.R_alloc | apply Kd.R_drewN | apply Kd.R_drew)); exact HO269.out⟩, ⟨by repeat (first | (with_reducible first | exact HB.out | apply below_alloc | apply pw_below_drewN | apply below_drew1) | exact HB.out)⟩⟩
  case round =>
   clear H'
   try clear c1
   try clear c2
   try clear p2
   try clear c6
   try clear c6b0
   try clear c6b1
   try clear c11
   obtain ⟨x8_1, x25_1, rfl, HA, HK1, HO_8, HO_23, HB⟩ := hrel
   cases gk with
   | zero => exact absurd HA.out (by simp [quant_Sub.l0])
   | succ k1 =>
    have H := HA.out
    clear HA
    simp only [quant_Sub.l0] at H
    by_cases c15 : x25_1 < (t267.length : Int)
    ·
     rw [if_pos c15] at H
     have c15b0 : decide (x25_1 < (t267.length : Int)) = true := decide_eq_true c15
     clear c15
     by_cases c16 : 0 ≤ x25_1
     ·
      rw [if_pos c16] at H
      have c16b0 : decide (0 ≤ x25_1) = true := decide_eq_true c16
      clear c16
      by_cases c17 : x25_1 < (t267.length : Int)
      ·
       rw [if_pos c17] at H
       have c17b0 : decide (x25_1 < (t267.length : Int)) = true := decide_eq_true c17
       clear c17
       replace H := Option.bind_eq_some_iff.mp H
       obtain ⟨t271, A180, H⟩ := H
       replace H : ((quant_Get.f k1 l1 (rdOf ByteArray.empty t267 x25_1)).bind fun t272 => (if (wrap64 (t271 - t272)) < 0 then (some (([] : List (S28)), rdOf ByteArray.empty t267 x25_1, 29)) else (if (wrap64 (t271 - t272)) > 0 then (if x8_1.length < 5864062014805 then (quant_Sub.l0 k1 l0 l1 (x8_1 ++ [(⟨rdOf ByteArray.empty t267 x25_1, wrap64 (t271 - t272)⟩ : S28)]) t267 (t267.length : Int) (wrap64 (x25_1 + 1))) else (none)) else (quant_Sub.l0 k1 l0 l1 x8_1 t267 (t267.length : Int) (wrap64 (x25_1 + 1)))))) = some (r1, r2, r3) := H
       have A18 := Aside0.mk A180
       clear A180
       replace H := Option.bind_eq_some_iff.mp H
       obtain ⟨t272, A190, H⟩ := H
       replace H : (if (wrap64 (t271 - t272)) < 0 then (some (([] : List (S28)), rdOf ByteArray.empty t267 x25_1, 29)) else (if (wrap64 (t271 - t272)) > 0 then (if x8_1.length < 5864062014805 then (quant_Sub.l0 k1 l0 l1 (x8_1 ++ [(⟨rdOf ByteArray.empty t267 x25_1, wrap64 (t271 - t272)⟩ : S28)]) t267 (t267.length : Int) (wrap64 (x25_1 + 1))) else (none)) else (quant_Sub.l0 k1 l0 l1 x8_1 t267 (t267.length : Int) (wrap64 (x25_1 + 1))))) = some (r1, r2, r3) := H
       have A19 := Aside0.mk A190
       clear A190
       by_cases c20 : (wrap64 (t271 - t272)) < 0
       ·
        rw [if_pos c20] at H
        have c20b0 : decide ((wrap64 (t271 - t272)) < 0) = true := decide_eq_true c20
        (try (have c20b1 : decide ((IntKind.i64.wrap (t271 - t272)) < 0) = true := by have h_ : decide ((wrap64 (t271 - t272)) < 0) = true := decide_eq_true c20; simp only [i64_w]; exact h_))
        clear c20
        simp only [Option.some.injEq, Prod.mk.injEq] at H
        obtain ⟨rfl, rfl, rfl⟩ := H
        have p270 : 0 ≤ (x25_1 : Int) := of_decide_eq_true (by first | (with_reducible assumption) | assumption)
        have q270 : x25_1 < (t267.length : Int) := of_decide_eq_true (by first | (with_reducible assumption) | assumption)
        obtain ⟨ad270, e270, hx270_0⟩ := Kd.at_string (Kd.R_reads' HO_23.out).2.2 x25_1 p270 q270
        cases e270
        replace p270 := eq_true p270
        replace q270 := eq_true q270
        go_wp2_with (first | ((with_reducible refine gate_callee (f := 12) rfl ?_); refine goesL_ (some 31) rfl rfl Try.func12 (by kernel_rfl) rfl #[.slice A0 l0.length c0, .string (rdOf ByteArray.empty t267 x25_1)] rfl (by (try simp only [List.map_toArray, List.map_cons, List.map_nil]); first | done | rfl | (simp only [List.length_drop, List.length_take]; rfl)) ?_; (with_reducible refine (quant_Get.calls k1 _ _ l0 (rdOf ByteArray.empty t267 x25_1) t271 _ ?side1 ?side2 A18.out).mono ?_); (case side1 => repeat (first | exact (Kd.C_below HR0.out HB.out) | (with_reducible refine Kd.C_alloc ?_ _) | (with_reducible refine Kd.C_drewN ?_ _) | (with_reducible refine Kd.C_drew ?_))); (case side2 => exact HC0.out); rintro e w21 ⟨rfl, hb⟩; refine ⟨_, rfl, ?_⟩; have n0_ := Aside0.mk (Kd.R_below (by (with_reducible repeat (first | apply Kd.R_alloc | apply Kd.R_drewN | apply Kd.R_drew)); exact HO_8.out) hb); have n1_ := Aside0.mk (Kd.R_below (by (with_reducible repeat (first | apply Kd.R_alloc | apply Kd.R_drewN | apply Kd.R_drew)); exact HO_23.out) hb); have n2_ := Aside0.mk (below_step (by repeat (first | (with_reducible first | exact HB.out | apply below_alloc | apply pw_below_drewN | apply below_drew1) | exact HB.out)) hb); clear HO_8; clear HO_23; clear HB; have HO_8 := n0_; have HO_23 := n1_; have HB := n2_; clear n0_ n1_ n2_; (try clear hb); (try clear hb2); (try clear hk); (try clear hi)) | ((with_reducible refine gate_callee (f := 12) rfl ?_); refine goesL_ (some 34) rfl rfl Try.func12 (by kernel_rfl) rfl #[.slice A1 l1.length c1, .string (rdOf ByteArray.empty t267 x25_1)] rfl (by (try simp only [List.map_toArray, List.map_cons, List.map_nil]); first | done | rfl | (simp only [List.length_drop, List.length_take]; rfl)) ?_; (with_reducible refine (quant_Get.calls k1 _ _ l1 (rdOf ByteArray.empty t267 x25_1) t272 _ ?side1 ?side2 A19.out).mono ?_); (case side1 => repeat (first | exact (Kd.C_below HR1.out HB.out) | (with_reducible refine Kd.C_alloc ?_ _) | (with_reducible refine Kd.C_drewN ?_ _) | (with_reducible refine Kd.C_drew ?_))); (case side2 => exact HC1.out); rintro e w22 ⟨rfl, hb⟩; refine ⟨_, rfl, ?_⟩; have n0_ := Aside0.mk (Kd.R_below (by (with_reducible repeat (first | apply Kd.R_alloc | apply Kd.R_drewN | apply Kd.R_drew)); exact HO_8.out) hb); have n1_ := Aside0.mk (Kd.R_below (by (with_reducible repeat (first | apply Kd.R_alloc | apply Kd.R_drewN | apply Kd.R_drew)); exact HO_23.out) hb); have n2_ := Aside0.mk (below_step (by repeat (first | (with_reducible first | exact HB.out | apply below_alloc | apply pw_below_drewN | apply below_drew1) | exact HB.out)) hb); clear HO_8; clear HO_23; clear HB; have HO_8 := n0_; have HO_23 := n1_; have HB := n2_; clear n0_ n1_ n2_; (try clear hb); (try clear hb2); (try clear hk); (try clear hi)))
        go_ret3
        exact ⟨_, by first | rfl | (simp [errW_none, errW_some] <;> rfl) | (simp [*, errW_none, errW_some] <;> rfl), by first | exact Kd.R_nil _ _ _ _ _ | exact Kd.N_nil _ _ _ _ _ | exact Kd.V_nil _ _ _ _ _ | exact Kd.Q_nil _ _ _ _ _ | exact Kd.S_nil _ _ _ _ _, by repeat (first | (with_reducible first | exact HB.out | apply below_alloc | apply pw_below_drewN | apply below_drew1) | exact HB.out)⟩
       ·
        rw [if_neg c20] at H
        have c20b0 : decide ((wrap64 (t271 - t272)) < 0) = false := decide_eq_false c20
        (try (have c20b1 : decide ((IntKind.i64.wrap (t271 - t272)) < 0) = false := by have h_ : decide ((wrap64 (t271 - t272)) < 0) = false := decide_eq_false c20; simp only [i64_w]; exact h_))
        clear c20
        by_cases c23 : (wrap64 (t271 - t272)) > 0
        ·
         rw [if_pos c23] at H
         have c23b0 : decide (0 < (wrap64 (t271 - t272))) = true := decide_eq_true c23
         (try (have c23b1 : decide (0 < (IntKind.i64.wrap (t271 - t272))) = true := by have h_ : decide (0 < (wrap64 (t271 - t272))) = true := decide_eq_true c23; simp only [i64_w]; exact h_))
         clear c23
         by_cases c24 : x8_1.length < 5864062014805
         ·
          rw [if_pos c24] at H
          have LMc24 := Aside0.mk c24
          clear c24
          obtain ⟨y273, hy273⟩ : ∃ y_ : List (S28), y_ = (x8_1 ++ [(⟨rdOf ByteArray.empty t267 x25_1, wrap64 (t271 - t272)⟩ : S28)]) := ⟨_, rfl⟩
          replace H : (quant_Sub.l0 k1 l0 l1 y273 t267 (t267.length : Int) (wrap64 (x25_1 + 1))) = some (r1, r2, r3) := by first | (rw [hy273]; with_reducible exact H) | (have H2_ := (Option.bind_some _ _).symm.trans H; rw [hy273]; with_reducible exact H2_) | (have H2_ := (Option.bind_some _ _).symm.trans H; with_reducible exact H2_) | with_reducible exact H | (rw [hy273]; exact H) | exact H
          have Ny273 := Aside0.mk hy273
          clear hy273
          have H' := Aside0.mk H
          clear H
          have p270 : 0 ≤ (x25_1 : Int) := of_decide_eq_true (by first | (with_reducible assumption) | assumption)
          have q270 : x25_1 < (t267.length : Int) := of_decide_eq_true (by first | (with_reducible assumption) | assumption)
          obtain ⟨ad270, e270, hx270_0⟩ := Kd.at_string (Kd.R_reads' HO_23.out).2.2 x25_1 p270 q270
          cases e270
          replace p270 := eq_true p270
          replace q270 := eq_true q270
          go_wp2_with (first | ((with_reducible refine gate_callee (f := 12) rfl ?_); refine goesL_ (some 31) rfl rfl Try.func12 (by kernel_rfl) rfl #[.slice A0 l0.length c0, .string (rdOf ByteArray.empty t267 x25_1)] rfl (by (try simp only [List.map_toArray, List.map_cons, List.map_nil]); first | done | rfl | (simp only [List.length_drop, List.length_take]; rfl)) ?_; (with_reducible refine (quant_Get.calls k1 _ _ l0 (rdOf ByteArray.empty t267 x25_1) t271 _ ?side1 ?side2 A18.out).mono ?_); (case side1 => repeat (first | exact (Kd.C_below HR0.out HB.out) | (with_reducible refine Kd.C_alloc ?_ _) | (with_reducible refine Kd.C_drewN ?_ _) | (with_reducible refine Kd.C_drew ?_))); (case side2 => exact HC0.out); rintro e w25 ⟨rfl, hb⟩; refine ⟨_, rfl, ?_⟩; have n0_ := Aside0.mk (Kd.R_below (by (with_reducible repeat (first | apply Kd.R_alloc | apply Kd.R_drewN | apply Kd.R_drew)); exact HO_8.out) hb); have n1_ := Aside0.mk (Kd.R_below (by (with_reducible repeat (first | apply Kd.R_alloc | apply Kd.R_drewN | apply Kd.R_drew)); exact HO_23.out) hb); have n2_ := Aside0.mk (below_step (by repeat (first | (with_reducible first | exact HB.out | apply below_alloc | apply pw_below_drewN | apply below_drew1) | exact HB.out)) hb); clear HO_8; clear HO_23; clear HB; have HO_8 := n0_; have HO_23 := n1_; have HB := n2_; clear n0_ n1_ n2_; (try clear hb); (try clear hb2); (try clear hk); (try clear hi)) | ((with_reducible refine gate_callee (f := 12) rfl ?_); refine goesL_ (some 34) rfl rfl Try.func12 (by kernel_rfl) rfl #[.slice A1 l1.length c1, .string (rdOf ByteArray.empty t267 x25_1)] rfl (by (try simp only [List.map_toArray, List.map_cons, List.map_nil]); first | done | rfl | (simp only [List.length_drop, List.length_take]; rfl)) ?_; (with_reducible refine (quant_Get.calls k1 _ _ l1 (rdOf ByteArray.empty t267 x25_1) t272 _ ?side1 ?side2 A19.out).mono ?_); (case side1 => repeat (first | exact (Kd.C_below HR1.out HB.out) | (with_reducible refine Kd.C_alloc ?_ _) | (with_reducible refine Kd.C_drewN ?_ _) | (with_reducible refine Kd.C_drew ?_))); (case side2 => exact HC1.out); rintro e w26 ⟨rfl, hb⟩; refine ⟨_, rfl, ?_⟩; have n0_ := Aside0.mk (Kd.R_below (by (with_reducible repeat (first | apply Kd.R_alloc | apply Kd.R_drewN | apply Kd.R_drew)); exact HO_8.out) hb); have n1_ := Aside0.mk (Kd.R_below (by (with_reducible repeat (first | apply Kd.R_alloc | apply Kd.R_drewN | apply Kd.R_drew)); exact HO_23.out) hb); have n2_ := Aside0.mk (below_step (by repeat (first | (with_reducible first | exact HB.out | apply below_alloc | apply pw_below_drewN | apply below_drew1) | exact HB.out)) hb); clear HO_8; clear HO_23; clear HB; have HO_8 := n0_; have HO_23 := n1_; have HB := n2_; clear n0_ n1_ n2_; (try clear hb); (try clear hb2); (try clear hk); (try clear hi)) | ((with_reducible refine gate_builtin (b := .append) (xs := #[.tmp 41, .tmp 45]) rfl ?_); at_builtin; refine Kd.R_append k28 (w0 := w) w.heap.size rfl (.tmp 41) (.tmp 45) 23 28 (.agg #[(.string ⟨#[]⟩), (.int .i64 0)]) 24 rfl Try.underlying23 info28 rfl (by decide) (by omega) u8 x8_1 (⟨rdOf ByteArray.empty t267 x25_1, wrap64 (t271 - t272)⟩ : S28) [.string (rdOf ByteArray.empty t267 x25_1), .int .i64 (wrap64 (t271 - t272))] (fun _ => True) (fun _ => False) rfl rfl ?aP (fun _ hk => hk.elim) ?aF ?aO ?aB ?aS ?aL ?_; (case aP => exact k28_mkM _ _ _ (⟨rdOf ByteArray.empty t267 x25_1, wrap64 (t271 - t272)⟩ : S28)); (case aB => exact (by repeat (first | (with_reducible first | exact HB.out | apply below_alloc | apply pw_below_drewN | apply below_drew1) | exact HB.out))); (case aF => exact (fun _ _ => trivial)); (case aO => exact (by (with_reducible repeat (first | apply Kd.R_alloc | apply Kd.R_drewN | apply Kd.R_drew)); exact HO_8.out)); (case aS => exact (below_size (by repeat (first | (with_reducible first | exact HB.out | apply below_alloc | apply pw_below_drewN | apply below_drew1) | exact HB.out)))); (case aL => have := LMc24.out; omega); intro v274 w27 ho hb hg hat; rw [← Ny273.out] at ho; have n0_ := Aside0.mk (Kd.R_over' (by (with_reducible repeat (first | apply Kd.R_alloc | apply Kd.R_drewN | apply Kd.R_drew)); exact HO_23.out) (Kd.R_typed (by (with_reducible repeat (first | apply Kd.R_alloc | apply Kd.R_drewN | apply Kd.R_drew)); exact HO_8.out)) (by decide) hg); have n1_ := Aside0.mk (hb); have n2_ := Aside0.mk (ho); clear HO_23; clear HB; clear HO_8; have HO_23 := n0_; have HB := n1_; have HO275 := n2_; clear n0_ n1_ n2_; clear ho hb hg hat))
          go_roundg k1
          case measure => have := HK1.out; omega
          case rel => exact ⟨(y273), (wrap64 (x25_1 + 1)), (by first | rfl | (simp; done) | (simp [*]; done) | (simp only [i64_w]; done) | (simp [i64_w, Int.tdiv_eq_ediv_of_nonneg]; done)), H', ⟨by have := HK1.out; omega⟩, ⟨by (with_reducible repeat (first | apply Kd.R_alloc | apply Kd.R_drewN | apply Kd.R_drew)); exact HO275.out⟩, ⟨by (with_reducible repeat (first | apply Kd.R_alloc | apply Kd.R_drewN | apply Kd.R_drew)); exact HO_23.out⟩, ⟨by repeat (first | (with_reducible first | exact HB.out | apply below_alloc | apply pw_below_drewN | apply below_drew1) | exact HB.out)⟩⟩
         ·
          rw [if_neg c24] at H
          exact absurd H (by simp)
        ·
         rw [if_neg c23] at H
         have c23b0 : decide (0 < (wrap64 (t271 - t272))) = false := decide_eq_false c23
         (try (have c23b1 : decide (0 < (IntKind.i64.wrap (t271 - t272))) = false := by have h_ : decide (0 < (wrap64 (t271 - t272))) = false := decide_eq_false c23; simp only [i64_w]; exact h_))
         clear c23
         have H' := Aside0.mk H
         clear H
         have p270 : 0 ≤ (x25_1 : Int) := of_decide_eq_true (by first | (with_reducible assumption) | assumption)
         have q270 : x25_1 < (t267.length : Int) := of_decide_eq_true (by first | (with_reducible assumption) | assumption)
         obtain ⟨ad270, e270, hx270_0⟩ := Kd.at_string (Kd.R_reads' HO_23.out).2.2 x25_1 p270 q270
         cases e270
         replace p270 := eq_true p270
         replace q270 := eq_true q270
         go_wp2_with (first | ((with_reducible refine gate_callee (f := 12) rfl ?_); refine goesL_ (some 31) rfl rfl Try.func12 (by kernel_rfl) rfl #[.slice A0 l0.length c0, .string (rdOf ByteArray.empty t267 x25_1)] rfl (by (try simp only [List.map_toArray, List.map_cons, List.map_nil]); first | done | rfl | (simp only [List.length_drop, List.length_take]; rfl)) ?_; (with_reducible refine (quant_Get.calls k1 _ _ l0 (rdOf ByteArray.empty t267 x25_1) t271 _ ?side1 ?side2 A18.out).mono ?_); (case side1 => repeat (first | exact (Kd.C_below HR0.out HB.out) | (with_reducible refine Kd.C_alloc ?_ _) | (with_reducible refine Kd.C_drewN ?_ _) | (with_reducible refine Kd.C_drew ?_))); (case side2 => exact HC0.out); rintro e w28 ⟨rfl, hb⟩; refine ⟨_, rfl, ?_⟩; have n0_ := Aside0.mk (Kd.R_below (by (with_reducible repeat (first | apply Kd.R_alloc | apply Kd.R_drewN | apply Kd.R_drew)); exact HO_8.out) hb); have n1_ := Aside0.mk (Kd.R_below (by (with_reducible repeat (first | apply Kd.R_alloc | apply Kd.R_drewN | apply Kd.R_drew)); exact HO_23.out) hb); have n2_ := Aside0.mk (below_step (by repeat (first | (with_reducible first | exact HB.out | apply below_alloc | apply pw_below_drewN | apply below_drew1) | exact HB.out)) hb); clear HO_8; clear HO_23; clear HB; have HO_8 := n0_; have HO_23 := n1_; have HB := n2_; clear n0_ n1_ n2_; (try clear hb); (try clear hb2); (try clear hk); (try clear hi)) | ((with_reducible refine gate_callee (f := 12) rfl ?_); refine goesL_ (some 34) rfl rfl Try.func12 (by kernel_rfl) rfl #[.slice A1 l1.length c1, .string (rdOf ByteArray.empty t267 x25_1)] rfl (by (try simp only [List.map_toArray, List.map_cons, List.map_nil]); first | done | rfl | (simp only [List.length_drop, List.length_take]; rfl)) ?_; (with_reducible refine (quant_Get.calls k1 _ _ l1 (rdOf ByteArray.empty t267 x25_1) t272 _ ?side1 ?side2 A19.out).mono ?_); (case side1 => repeat (first | exact (Kd.C_below HR1.out HB.out) | (with_reducible refine Kd.C_alloc ?_ _) | (with_reducible refine Kd.C_drewN ?_ _) | (with_reducible refine Kd.C_drew ?_))); (case side2 => exact HC1.out); rintro e w29 ⟨rfl, hb⟩; refine ⟨_, rfl, ?_⟩; have n0_ := Aside0.mk (Kd.R_below (by (with_reducible repeat (first | apply Kd.R_alloc | apply Kd.R_drewN | apply Kd.R_drew)); exact HO_8.out) hb); have n1_ := Aside0.mk (Kd.R_below (by (with_reducible repeat (first | apply Kd.R_alloc | apply Kd.R_drewN | apply Kd.R_drew)); exact HO_23.out) hb); have n2_ := Aside0.mk (below_step (by repeat (first | (with_reducible first | exact HB.out | apply below_alloc | apply pw_below_drewN | apply below_drew1) | exact HB.out)) hb); clear HO_8; clear HO_23; clear HB; have HO_8 := n0_; have HO_23 := n1_; have HB := n2_; clear n0_ n1_ n2_; (try clear hb); (try clear hb2); (try clear hk); (try clear hi)))
         go_roundg k1
         case measure => have := HK1.out; omega
         case rel => exact ⟨(x8_1), (wrap64 (x25_1 + 1)), (by first | rfl | (simp; done) | (simp [*]; done) | (simp only [i64_w]; done) | (simp [i64_w, Int.tdiv_eq_ediv_of_nonneg]; done)), H', ⟨by have := HK1.out; omega⟩, ⟨by (with_reducible repeat (first | apply Kd.R_alloc | apply Kd.R_drewN | apply Kd.R_drew)); exact HO_8.out⟩, ⟨by (with_reducible repeat (first | apply Kd.R_alloc | apply Kd.R_drewN | apply Kd.R_drew)); exact HO_23.out⟩, ⟨by repeat (first | (with_reducible first | exact HB.out | apply below_alloc | apply pw_below_drewN | apply below_drew1) | exact HB.out)⟩⟩
      ·
       rw [if_neg c17] at H
       exact absurd H (by simp)
     ·
      rw [if_neg c16] at H
      exact absurd H (by simp)
    ·
     rw [if_neg c15] at H
     have c15b0 : decide (x25_1 < (t267.length : Int)) = false := decide_eq_false c15
     clear c15
     simp only [Option.some.injEq, Prod.mk.injEq] at H
     obtain ⟨rfl, rfl, rfl⟩ := H
     go_wp2
     go_ret3
     exact ⟨_, by first | rfl | (simp [errW_none, errW_some] <;> rfl) | (simp [*, errW_none, errW_some] <;> rfl), by (with_reducible repeat (first | apply Kd.R_alloc | apply Kd.R_drewN | apply Kd.R_drew)); exact HO_8.out, by repeat (first | (with_reducible first | exact HB.out | apply below_alloc | apply pw_below_drewN | apply below_drew1) | exact HB.out)⟩
 ·
  rw [if_neg c6] at H
  have c6b0 : (t266 == 0) = false := beq_eq_false_iff_ne.mpr c6
  have c6b1 : (t266 != 0) = true := bne_iff_ne.mpr c6
  simp only [Option.some.injEq, Prod.mk.injEq] at H
  obtain ⟨rfl, rfl, rfl⟩ := H
  go_enter Try.func22, Try.ntmps22
  go_wp2_with (first | ((with_reducible refine gate_callee (f := 11) rfl ?_); refine goesL_ (some 13) rfl rfl Try.func11 (by kernel_rfl) rfl #[.slice A0 l0.length c0] rfl (by (try simp only [List.map_toArray, List.map_cons, List.map_nil]); first | done | rfl | (simp only [List.length_drop, List.length_take]; rfl)) ?_; (with_reducible refine (quant_Check.calls k _ _ l0 t261 _ ?side1 ?side2 A3.out).mono ?_); (case side1 => repeat (first | exact HR0.out | (with_reducible refine Kd.C_alloc ?_ _) | (with_reducible refine Kd.C_drewN ?_ _) | (with_reducible refine Kd.C_drew ?_))); (case side2 => exact HC0.out); rintro e w30 ⟨rfl, hb⟩; refine ⟨_, rfl, ?_⟩; have n0_ := Aside0.mk (below_step (by repeat (first | (with_reducible first | exact HB.out | apply below_alloc | apply pw_below_drewN | apply below_drew1) | exact HB.out)) hb); clear HB; have HB := n0_; clear n0_; (try clear hb); (try clear hb2); (try clear hk); (try clear hi)) | ((with_reducible refine gate_callee (f := 11) rfl ?_); refine goesL_ (some 15) rfl rfl Try.func11 (by kernel_rfl) rfl #[.slice A1 l1.length c1] rfl (by (try simp only [List.map_toArray, List.map_cons, List.map_nil]); first | done | rfl | (simp only [List.length_drop, List.length_take]; rfl)) ?_; (with_reducible refine (quant_Check.calls k _ _ l1 t262 _ ?side1 ?side2 A4.out).mono ?_); (case side1 => repeat (first | exact (Kd.C_below HR1.out HB.out) | (with_reducible refine Kd.C_alloc ?_ _) | (with_reducible refine Kd.C_drewN ?_ _) | (with_reducible refine Kd.C_drew ?_))); (case side2 => exact HC1.out); rintro e w31 ⟨rfl, hb⟩; refine ⟨_, rfl, ?_⟩; have n0_ := Aside0.mk (below_step (by repeat (first | (with_reducible first | exact HB.out | apply below_alloc | apply pw_below_drewN | apply below_drew1) | exact HB.out)) hb); clear HB; have HB := n0_; clear n0_; (try clear hb); (try clear hb2); (try clear hk); (try clear hi)) | ((with_reducible refine gate_dst (N := 16) rfl ?_); refine Kd.R_lit (Kd.int .i64) _ 24 ?hg (N := 16) ?hd (xs := ([t261, t262] : List Int)) (inner := [.int .i64 t261, .int .i64 t262]) (ok := fun _ => True) (okp := fun _ => True) ?hr ?hp (fun _ hk => hk) trivial (Below.refl _ _) (Nat.le_refl _) (by simp) ?_; (case hd => rfl); (case hg => rfl); (case hr => first | (go_simp; done) | (go_simp; rfl)); (case hp => exact (Reps.one (show Kd.M (Kd.int .i64) _ _ _ t261 [.int .i64 t261] from rfl) (Reps.one (show Kd.M (Kd.int .i64) _ _ _ t262 [.int .i64 t262] from rfl) (Reps.none _ _)))); intro v264 w32 ho33 hb hg_ hnew_; clear hg_ hnew_; (first | rw [← Ny263.out] at ho33 | (simp only [Int.reduceToNat] at ho33; rw [← Ny263.out] at ho33)); have n0_ := Aside0.mk (Kd.R_lower ho33 (below_size (by repeat (first | (with_reducible first | exact HB.out | apply below_alloc | apply pw_below_drewN | apply below_drew1) | exact HB.out)))); have n1_ := Aside0.mk (below_step (by repeat (first | (with_reducible first | exact HB.out | apply below_alloc | apply pw_below_drewN | apply below_drew1) | exact HB.out)) hb); clear HB; have HO265 := n0_; have HB := n1_; clear n0_ n1_; clear hb ho33; obtain ⟨Ao34, co34, eo34⟩ := Kd.R_slice HO265.out; subst eo34) | ((with_reducible refine gate_callee (f := 24) rfl ?_); refine goesL_ (some 17) rfl rfl Try.func24 (by kernel_rfl) rfl #[.slice Ao34 y263.length co34] rfl (by (try simp only [List.map_toArray, List.map_cons, List.map_nil]); first | done | rfl | (simp only [List.length_drop, List.length_take]; rfl)) ?_; (with_reducible refine (api_Errno.calls k _ _ y263 t266 _ ?side1 ?side2 A5.out).mono ?_); (case side1 => repeat (first | exact (Kd.R_reads' HO265.out).2.2 | (with_reducible refine Kd.C_alloc ?_ _) | (with_reducible refine Kd.C_drewN ?_ _) | (with_reducible refine Kd.C_drew ?_))); (case side2 => exact (Kd.R_reads' HO265.out).2.1); rintro e w' ⟨rfl, ⟨nd, rfl⟩⟩; refine ⟨_, rfl, ?_⟩))
  go_ret3
  exact ⟨_, by first | rfl | (simp [errW_none, errW_some] <;> rfl) | (simp [*, errW_none, errW_some] <;> rfl), by first | exact Kd.R_nil _ _ _ _ _ | exact Kd.N_nil _ _ _ _ _ | exact Kd.V_nil _ _ _ _ _ | exact Kd.Q_nil _ _ _ _ _ | exact Kd.S_nil _ _ _ _ _, by repeat (first | (with_reducible first | exact HB.out | apply below_alloc | apply pw_below_drewN | apply below_drew1) | exact HB.out)⟩
end Go.Proofs.Ytbibnendaddbhaa.All
