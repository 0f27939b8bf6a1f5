/- The program's type, as the rows open it. -/
import Derived.Test.YtbnplhmmbnmagaazAHm2
import Derived.Test.YtbnplhmmbnmagaazAHm9
namespace Go.Proofs.Ytbnplhmmbnmagaa.All
open Go.RowKit Go.Proofs.YtbnplhmmbnmagaaW.PrintWords Go.Proofs.YtbnplhmmbnmagaaW.PrintLast Go.Proofs.YtbnplhmmbnmagaaW.PrintMore
attribute [local go_sem] max2_int min2_int max_two min_two max_three min_three max_four min_four
attribute [local go_sem] Go.Proofs.YtbnplhmmbnmagaaX.binOp_leq Go.Proofs.YtbnplhmmbnmagaaX.binOp_geq Go.Proofs.YtbnplhmmbnmagaaX.binOp_gtr
set_option linter.unusedVariables false
set_option linter.unusedSimpArgs false
def code_putList_int_47.l0 : Nat → List Int → List (List Int) → Int → Int → Option (List Int)
  | 0, _, _, _, _ => none
  | k + 1, x0, x14, x15, x16 => if x16 < x15 then (if 0 ≤ x16 then (if x16 < (x14.length : Int) then ((code_Encode_2.f k x0 (rd_L4 x14 x16)).bind fun t152 => (code_putList_int_47.l0 k t152 x14 x15 (wrap64 (x16 + 1)))) else (none)) else (none)) else (some x0)
def code_putList_int_47.f (k : Nat) (l0 : List Int) (l1 : List (List Int)) : Option (List Int) := (code_putCount.f k l0 (IntKind.u64.wrap ((l1.length : Int)))).bind fun t148 => (code_putList_int_47.l0 k t148 l1 (l1.length : Int) 0)
set_option maxHeartbeats 8000000 in
set_option maxRecDepth 100000 in
theorem code_putList_int_47.calls (k : Nat) (P0_ : Nat → Prop) (u9000_ : Value) (l0 : List Int) (A1 : Option Addr) (c1 : Nat) (l1 : List (List Int)) (r : List Int) (w0 w : World) (hB : Below w0.heap.size w0 w) (ho0 : Kd.R (Kd.int .u8) 5 w w0.heap.size P0_ u9000_ l0) (hr1 : ∀ W_, Kept w W_ (fun k_ => P0_ k_) → Kd.C (Kd.slice 3 (Kd.int .i64)) W_ A1 l1.length l1) (hc1 : l1.length ≤ c1) (h : code_putList_int_47.f k l0 l1 = some r) :
 Calls Try.prog 47 #[u9000_, .slice A1 l1.length c1, .func (.func 48) #[] #[]] w fun e w' => ∃ v0_ : Value, e = .returned (v0_) ∧ Kd.R (Kd.int .u8) 5 w' w0.heap.size (fun k_ => (P0_ k_ ∨ w.heap.size ≤ k_)) v0_ r ∧ Below w0.heap.size w0 w' ∧ Kept w w' (fun k_ => P0_ k_) := by
 have HO0 := Aside0.mk (show Kd.R (Kd.int .u8) 5 w w0.heap.size (fun k_ => (P0_ k_ ∨ w.heap.size ≤ k_)) u9000_ l0 from Kd.R_mono ho0 (fun k_ hk => (.inl hk)))
 have HR1 := Aside0.mk hr1
 have HC1 := Aside0.mk hc1
 clear hr1 hc1
 have HK := Aside0.mk (Kept.refl w (fun k_ => P0_ k_))
 have HW0 := Aside0.mk hB.size
 have HB := Aside0.mk hB
 clear hB
 have H : ((code_putCount.f k l0 (IntKind.u64.wrap ((l1.length : Int)))).bind fun t148 => (code_putList_int_47.l0 k t148 l1 (l1.length : Int) 0)) = some r := h
 clear h
 replace H := Option.bind_eq_some_iff.mp H
 obtain ⟨t148, A30, H⟩ := H
 replace H : (code_putList_int_47.l0 k t148 l1 (l1.length : Int) 0) = some r := H
 have A3 := Aside0.mk A30
 clear A30
 have H' := Aside0.mk H
 clear H
 obtain ⟨Ao4, co4, eo4⟩ := Kd.R_slice HO0.out
 subst eo4
 go_enter Try.func47, Try.ntmps47
 go_wp2_with (first | ((with_reducible refine gate_callee (f := 40) rfl ?_); refine goesL_ (some 13) rfl rfl Try.func40 (by kernel_rfl) rfl #[.slice Ao4 l0.length co4, .int .u64 (IntKind.u64.wrap ((l1.length : Int)))] rfl (by (try simp only [List.map_toArray, List.map_cons, List.map_nil]); first | done | rfl | (simp only [List.length_drop, List.length_take]; rfl)) ?_; (with_reducible refine (code_putCount.calls k (fun k_ => some k_ = (.slice Ao4 l0.length co4 : Value).ownBlock) (.slice Ao4 l0.length co4) l0 (IntKind.u64.wrap ((l1.length : Int))) t148 w0 _ ?side1 ?side2 A3.out).mono ?_); (case side1 => repeat (first | (with_reducible first | exact HB.out | apply below_alloc | apply pw_below_drewN | apply below_drew1) | exact HB.out)); (case side2 => exact Kd.R_tight rfl HO0.out); rintro e w5 ⟨v149, rfl, ho0, hb, hkp⟩; refine ⟨_, rfl, ?_⟩; have n0_ := Aside0.mk (Kd.R_mono (ok' := fun k_ => (P0_ k_ ∨ w.heap.size ≤ k_)) ho0 (fun k_ hk_ => Or.elim hk_ (fun hs_ => (HO0.out.1 k_ (hs_).symm)) (fun hn_ => (.inr (Nat.le_trans (by first | exact HK.out.1 | exact (show Kept w _ (fun k_ => P0_ k_) from by repeat (first | (with_reducible first | exact HK.out | apply Kept.alloc | apply Kept.drewN | apply Kept.drew) | exact HK.out)).1) hn_))))); have n1_ := Aside0.mk (Kept.then_ (S := (fun k_ => P0_ k_)) (by repeat (first | (with_reducible first | exact HK.out | apply Kept.alloc | apply Kept.drewN | apply Kept.drew) | exact HK.out)) hkp (fun k_ hs_ => (fun e_ => (HO0.out.1 k_ e_.symm)) hs_)); have n2_ := Aside0.mk (hb); clear HK; clear HB; clear HO0; have HO150 := n0_; have HK := n1_; have HB := n2_; clear n0_ n1_ n2_; (try clear hb); (try clear hkp); (try clear ho0)))
 go_loopg [0, 16] k (fun kq v0 v16 w' => ∃ (x0_1 : List Int) (x16_1 : Int), v16 = .int .i64 x16_1 ∧ Aside0 (code_putList_int_47.l0 kq x0_1 l1 (l1.length : Int) x16_1 = some r) ∧ Aside0 (kq ≤ k) ∧ Aside0 (Kd.R (Kd.int .u8) 5 w' w0.heap.size (fun k_ => (P0_ k_ ∨ w.heap.size ≤ k_)) v0 x0_1) ∧ Aside0 (Kept w w' (fun k_ => P0_ k_)) ∧ Aside0 (Below w0.heap.size w0 w'))
 case atStart => exact ⟨(t148), (0), (by first | rfl | (simp; done) | (simp [*]; done) | (simp only [i64_w]; done) | (simp [i64_w, Int.tdiv_eq_ediv_of_nonneg]; done)), H', ⟨Nat.le_refl _⟩, ⟨by (with_reducible repeat (first | apply Kd.R_alloc | apply Kd.R_drewN | apply Kd.R_drew)); exact HO150.out⟩, ⟨by repeat (first | (with_reducible first | exact HK.out | apply Kept.alloc | apply Kept.drewN | apply Kept.drew) | exact HK.out)⟩, ⟨by repeat (first | (with_reducible first | exact HB.out | apply below_alloc | apply pw_below_drewN | apply below_drew1) | exact HB.out)⟩⟩
 case round =>
  clear H'
  try clear c1
  try clear c2
  try clear p2
  obtain ⟨x0_1, x16_1, rfl, HA, HK1, HO_0, HK, HB⟩ := hrel
  cases gk with
  | zero => exact absurd HA.out (by simp [code_putList_int_47.l0])
  | succ k1 =>
   have H := HA.out
   clear HA
   simp only [code_putList_int_47.l0] at H
   by_cases c6 : x16_1 < (l1.length : Int)
   ·
    rw [if_pos c6] at H
    have c6b0 : decide (x16_1 < (l1.length : Int)) = true := decide_eq_true c6
    clear c6
    by_cases c7 : 0 ≤ x16_1
    ·
     rw [if_pos c7] at H
     have c7b0 : decide (0 ≤ x16_1) = true := decide_eq_true c7
     clear c7
     by_cases c8 : x16_1 < (l1.length : Int)
     ·
      rw [if_pos c8] at H
      have c8b0 : decide (x16_1 < (l1.length : Int)) = true := decide_eq_true c8
      clear c8
      replace H := Option.bind_eq_some_iff.mp H
      obtain ⟨t152, A90, H⟩ := H
      replace H : (code_putList_int_47.l0 k1 t152 l1 (l1.length : Int) (wrap64 (x16_1 + 1))) = some r := H
      have A9 := Aside0.mk A90
      clear A90
      have H' := Aside0.mk H
      clear H
      have p151 : 0 ≤ (x16_1 : Int) := of_decide_eq_true (by first | (with_reducible assumption) | assumption)
      have q151 : x16_1 < (l1.length : Int) := of_decide_eq_true (by first | (with_reducible assumption) | assumption)
      have inn := Kd.inner_kept HR1.out HK.out x16_1 p151 q151
      change ∃ ad A2 c2, _ = some ad ∧ _ = some (Value.slice A2 (rd_L4 l1 x16_1).length c2) ∧ (rd_L4 l1 x16_1).length ≤ c2 ∧ ∀ W2, Kept w W2 _ → Kd.C _ W2 A2 (rd_L4 l1 x16_1).length (rd_L4 l1 x16_1) at inn
      obtain ⟨ad151, A2_, c2_, e151, hx151_0, hle2, hin⟩ := inn
      have HIN := Aside0.mk hin
      have HLE := Aside0.mk hle2
      clear hin hle2
      cases e151
      replace p151 := eq_true p151
      replace q151 := eq_true q151
      obtain ⟨Ao10, co10, eo10⟩ := Kd.R_slice HO_0.out
      subst eo10
      go_wp2_with (first | ((with_reducible refine Go.Proofs.YtbnplhmmbnmagaaX.gate_slot (k := 20) rfl ?_); refine Go.Proofs.YtbnplhmmbnmagaaX.goesS_ (k := 20) (some 23) rfl rfl Try.func48 (by kernel_rfl) rfl rfl #[.slice Ao10 x0_1.length co10, .slice A2_ (rd_L4 l1 x16_1).length c2_] rfl (by (try simp only [List.map_toArray, List.map_cons, List.map_nil]); first | done | rfl | (simp only [List.length_drop, List.length_take]; rfl)) ?_; (with_reducible refine (code_Encode_2.calls k1 (fun k_ => some k_ = (.slice Ao10 x0_1.length co10 : Value).ownBlock) (.slice Ao10 x0_1.length co10) x0_1 A2_ c2_ (rd_L4 l1 x16_1) t152 w0 _ ?side1 ?side2 ?side3 ?side4 A9.out).mono ?_); (case side3 => exact fun W_ hkW => HIN.out W_ (Kept.then_ (S := (fun k_ => P0_ k_)) (by repeat (first | (with_reducible first | exact HK.out | apply Kept.alloc | apply Kept.drewN | apply Kept.drew) | exact HK.out)) hkW (fun k_ hs_ => (HO_0.out.1 k_ hs_.symm)))); (case side4 => exact HLE.out); (case side1 => repeat (first | (with_reducible first | exact HB.out | apply below_alloc | apply pw_below_drewN | apply below_drew1) | exact HB.out)); (case side2 => exact Kd.R_tight rfl HO_0.out); rintro e w11 ⟨v153, rfl, ho0, hb, hkp⟩; refine ⟨_, rfl, ?_⟩; have n0_ := Aside0.mk (Kd.R_mono (ok' := fun k_ => (P0_ k_ ∨ w.heap.size ≤ k_)) ho0 (fun k_ hk_ => Or.elim hk_ (fun hs_ => (HO_0.out.1 k_ (hs_).symm)) (fun hn_ => (.inr (Nat.le_trans (by first | exact HK.out.1 | exact (show Kept w _ (fun k_ => P0_ k_) from by repeat (first | (with_reducible first | exact HK.out | apply Kept.alloc | apply Kept.drewN | apply Kept.drew) | exact HK.out)).1) hn_))))); have n1_ := Aside0.mk (Kept.then_ (S := (fun k_ => P0_ k_)) (by repeat (first | (with_reducible first | exact HK.out | apply Kept.alloc | apply Kept.drewN | apply Kept.drew) | exact HK.out)) hkp (fun k_ hs_ => (fun e_ => (HO_0.out.1 k_ e_.symm)) hs_)); have n2_ := Aside0.mk (hb); clear HK; clear HB; clear HO_0; have HO154 := n0_; have HK := n1_; have HB := n2_; clear n0_ n1_ n2_; (try clear hb); (try clear hkp); (try clear ho0)))
      go_roundg k1
      case measure => have := HK1.out; omega
      case rel => exact ⟨(t152), (wrap64 (x16_1 + 1)), (by first | rfl | (simp; done) | (simp [*]; done) | (simp only [i64_w]; done) | (simp [i64_w, Int.tdiv_eq_ediv_of_nonneg]; done)), H', ⟨by have := HK1.out; omega⟩, ⟨by (with_reducible repeat (first | apply Kd.R_alloc | apply Kd.R_drewN | apply Kd.R_drew)); exact HO154.out⟩, ⟨by repeat (first | (with_reducible first | exact HK.out | apply Kept.alloc | apply Kept.drewN | apply Kept.drew) | exact HK.out)⟩, ⟨by repeat (first | (with_reducible first | exact HB.out | apply below_alloc | apply pw_below_drewN | apply below_drew1) | exact HB.out)⟩⟩
     ·
      rw [if_neg c8] at H
      exact absurd H (by simp)
    ·
     rw [if_neg c7] at H
     exact absurd H (by simp)
   ·
    rw [if_neg c6] at H
    have c6b0 : decide (x16_1 < (l1.length : Int)) = false := decide_eq_false c6
    clear c6
    obtain rfl := Option.some.inj H
    go_wp2
    go_ret
    exact ⟨_, by first | rfl | (simp [errW_none, errW_some] <;> rfl) | (simp [*, errW_none, errW_some] <;> rfl), by (with_reducible repeat (first | apply Kd.R_alloc | apply Kd.R_drewN | apply Kd.R_drew)); exact HO_0.out, by repeat (first | (with_reducible first | exact HB.out | apply below_alloc | apply pw_below_drewN | apply below_drew1) | exact HB.out), by repeat (first | (with_reducible first | exact HK.out | apply Kept.alloc | apply Kept.drewN | apply Kept.drew) | exact HK.out)⟩
def B3 (u : Bool × Bool × Bool) : Value := .agg #[.bool u.1, .bool u.2.1, .bool u.2.2]
def usesV (op : Int) : Bool × Bool × Bool :=
  if op = 8 ∨ op = 9 ∨ op = 10 ∨ op = 11 ∨ op = 15 ∨ op = 27 ∨ op = 28 ∨ op = 29 ∨ op = 30 ∨ op = 35 ∨ op = 36 then (false, false, false) else if op = 19 ∨ op = 21 ∨ op = 22 ∨ op = 23 then (false, true, false) else if op = 12 ∨ op = 17 then (true, true, false) else if op = 25 then (true, false, true) else if op = 18 ∨ op = 20 then (false, true, true) else if op = 16 then (true, true, true) else (true, false, false)
set_option maxHeartbeats 8000000 in
set_option maxRecDepth 100000 in
theorem uses.w8 (w : World) : Calls Try.prog 51 #[.int .i64 8] w fun re w' => re = .returned (B3 (false, false, false)) ∧ Below w.heap.size w w' := by
 go_enter Try.func51, Try.ntmps51
 go_wp2
 refine bodyPost_ret (results_cell_row rfl _ _ w.heap.size _ _ _ _ rfl (heap_alloc_new w _) Try.underlying119 rfl rfl) rfl ?_
 exact ⟨rfl, by go_grown⟩
set_option maxHeartbeats 8000000 in
set_option maxRecDepth 100000 in
theorem uses.w9 (w : World) : Calls Try.prog 51 #[.int .i64 9] w fun re w' => re = .returned (B3 (false, false, false)) ∧ Below w.heap.size w w' := by
 go_enter Try.func51, Try.ntmps51
 go_wp2
 refine bodyPost_ret (results_cell_row rfl _ _ w.heap.size _ _ _ _ rfl (heap_alloc_new w _) Try.underlying119 rfl rfl) rfl ?_
 exact ⟨rfl, by go_grown⟩
set_option maxHeartbeats 8000000 in
set_option maxRecDepth 100000 in
theorem uses.w10 (w : World) : Calls Try.prog 51 #[.int .i64 10] w fun re w' => re = .returned (B3 (false, false, false)) ∧ Below w.heap.size w w' := by
 go_enter Try.func51, Try.ntmps51
 go_wp2
 refine bodyPost_ret (results_cell_row rfl _ _ w.heap.size _ _ _ _ rfl (heap_alloc_new w _) Try.underlying119 rfl rfl) rfl ?_
 exact ⟨rfl, by go_grown⟩
set_option maxHeartbeats 8000000 in
set_option maxRecDepth 100000 in
theorem uses.w11 (w : World) : Calls Try.prog 51 #[.int .i64 11] w fun re w' => re = .returned (B3 (false, false, false)) ∧ Below w.heap.size w w' := by
 go_enter Try.func51, Try.ntmps51
 go_wp2
 refine bodyPost_ret (results_cell_row rfl _ _ w.heap.size _ _ _ _ rfl (heap_alloc_new w _) Try.underlying119 rfl rfl) rfl ?_
 exact ⟨rfl, by go_grown⟩
set_option maxHeartbeats 8000000 in
set_option maxRecDepth 100000 in
theorem uses.w15 (w : World) : Calls Try.prog 51 #[.int .i64 15] w fun re w' => re = .returned (B3 (false, false, false)) ∧ Below w.heap.size w w' := by
 go_enter Try.func51, Try.ntmps51
 go_wp2
 refine bodyPost_ret (results_cell_row rfl _ _ w.heap.size _ _ _ _ rfl (heap_alloc_new w _) Try.underlying119 rfl rfl) rfl ?_
 exact ⟨rfl, by go_grown⟩
set_option maxHeartbeats 8000000 in
set_option maxRecDepth 100000 in
theorem uses.w27 (w : World) : Calls Try.prog 51 #[.int .i64 27] w fun re w' => re = .returned (B3 (false, false, false)) ∧ Below w.heap.size w w' := by
 go_enter Try.func51, Try.ntmps51
 go_wp2
 refine bodyPost_ret (results_cell_row rfl _ _ w.heap.size _ _ _ _ rfl (heap_alloc_new w _) Try.underlying119 rfl rfl) rfl ?_
 exact ⟨rfl, by go_grown⟩
set_option maxHeartbeats 8000000 in
set_option maxRecDepth 100000 in
theorem uses.w28 (w : World) : Calls Try.prog 51 #[.int .i64 28] w fun re w' => re = .returned (B3 (false, false, false)) ∧ Below w.heap.size w w' := by
 go_enter Try.func51, Try.ntmps51
 go_wp2
 refine bodyPost_ret (results_cell_row rfl _ _ w.heap.size _ _ _ _ rfl (heap_alloc_new w _) Try.underlying119 rfl rfl) rfl ?_
 exact ⟨rfl, by go_grown⟩
set_option maxHeartbeats 8000000 in
set_option maxRecDepth 100000 in
theorem uses.w29 (w : World) : Calls Try.prog 51 #[.int .i64 29] w fun re w' => re = .returned (B3 (false, false, false)) ∧ Below w.heap.size w w' := by
 go_enter Try.func51, Try.ntmps51
 go_wp2
 refine bodyPost_ret (results_cell_row rfl _ _ w.heap.size _ _ _ _ rfl (heap_alloc_new w _) Try.underlying119 rfl rfl) rfl ?_
 exact ⟨rfl, by go_grown⟩
set_option maxHeartbeats 8000000 in
set_option maxRecDepth 100000 in
theorem uses.w30 (w : World) : Calls Try.prog 51 #[.int .i64 30] w fun re w' => re = .returned (B3 (false, false, false)) ∧ Below w.heap.size w w' := by
 go_enter Try.func51, Try.ntmps51
 go_wp2
 refine bodyPost_ret (results_cell_row rfl _ _ w.heap.size _ _ _ _ rfl (heap_alloc_new w _) Try.underlying119 rfl rfl) rfl ?_
 exact ⟨rfl, by go_grown⟩
set_option maxHeartbeats 8000000 in
set_option maxRecDepth 100000 in
theorem uses.w35 (w : World) : Calls Try.prog 51 #[.int .i64 35] w fun re w' => re = .returned (B3 (false, false, false)) ∧ Below w.heap.size w w' := by
 go_enter Try.func51, Try.ntmps51
 go_wp2
 refine bodyPost_ret (results_cell_row rfl _ _ w.heap.size _ _ _ _ rfl (heap_alloc_new w _) Try.underlying119 rfl rfl) rfl ?_
 exact ⟨rfl, by go_grown⟩
set_option maxHeartbeats 8000000 in
set_option maxRecDepth 100000 in
theorem uses.w36 (w : World) : Calls Try.prog 51 #[.int .i64 36] w fun re w' => re = .returned (B3 (false, false, false)) ∧ Below w.heap.size w w' := by
 go_enter Try.func51, Try.ntmps51
 go_wp2
 refine bodyPost_ret (results_cell_row rfl _ _ w.heap.size _ _ _ _ rfl (heap_alloc_new w _) Try.underlying119 rfl rfl) rfl ?_
 exact ⟨rfl, by go_grown⟩
set_option maxHeartbeats 8000000 in
set_option maxRecDepth 100000 in
theorem uses.w19 (w : World) : Calls Try.prog 51 #[.int .i64 19] w fun re w' => re = .returned (B3 (false, true, false)) ∧ Below w.heap.size w w' := by
 go_enter Try.func51, Try.ntmps51
 go_wp2
 refine bodyPost_ret (results_cell_row rfl _ _ w.heap.size _ _ _ _ rfl (heap_alloc_new w _) Try.underlying119 rfl rfl) rfl ?_
 exact ⟨rfl, by go_grown⟩
set_option maxHeartbeats 8000000 in
set_option maxRecDepth 100000 in
theorem uses.w21 (w : World) : Calls Try.prog 51 #[.int .i64 21] w fun re w' => re = .returned (B3 (false, true, false)) ∧ Below w.heap.size w w' := by
 go_enter Try.func51, Try.ntmps51
 go_wp2
 refine bodyPost_ret (results_cell_row rfl _ _ w.heap.size _ _ _ _ rfl (heap_alloc_new w _) Try.underlying119 rfl rfl) rfl ?_
 exact ⟨rfl, by go_grown⟩
set_option maxHeartbeats 8000000 in
set_option maxRecDepth 100000 in
theorem uses.w22 (w : World) : Calls Try.prog 51 #[.int .i64 22] w fun re w' => re = .returned (B3 (false, true, false)) ∧ Below w.heap.size w w' := by
 go_enter Try.func51, Try.ntmps51
 go_wp2
 refine bodyPost_ret (results_cell_row rfl _ _ w.heap.size _ _ _ _ rfl (heap_alloc_new w _) Try.underlying119 rfl rfl) rfl ?_
 exact ⟨rfl, by go_grown⟩
set_option maxHeartbeats 8000000 in
set_option maxRecDepth 100000 in
theorem uses.w23 (w : World) : Calls Try.prog 51 #[.int .i64 23] w fun re w' => re = .returned (B3 (false, true, false)) ∧ Below w.heap.size w w' := by
 go_enter Try.func51, Try.ntmps51
 go_wp2
 refine bodyPost_ret (results_cell_row rfl _ _ w.heap.size _ _ _ _ rfl (heap_alloc_new w _) Try.underlying119 rfl rfl) rfl ?_
 exact ⟨rfl, by go_grown⟩
set_option maxHeartbeats 8000000 in
set_option maxRecDepth 100000 in
theorem uses.w12 (w : World) : Calls Try.prog 51 #[.int .i64 12] w fun re w' => re = .returned (B3 (true, true, false)) ∧ Below w.heap.size w w' := by
 go_enter Try.func51, Try.ntmps51
 go_wp2
 refine bodyPost_ret (results_cell_row rfl _ _ w.heap.size _ _ _ _ rfl (heap_alloc_new w _) Try.underlying119 rfl rfl) rfl ?_
 exact ⟨rfl, by go_grown⟩
set_option maxHeartbeats 8000000 in
set_option maxRecDepth 100000 in
theorem uses.w17 (w : World) : Calls Try.prog 51 #[.int .i64 17] w fun re w' => re = .returned (B3 (true, true, false)) ∧ Below w.heap.size w w' := by
 go_enter Try.func51, Try.ntmps51
 go_wp2
 refine bodyPost_ret (results_cell_row rfl _ _ w.heap.size _ _ _ _ rfl (heap_alloc_new w _) Try.underlying119 rfl rfl) rfl ?_
 exact ⟨rfl, by go_grown⟩
set_option maxHeartbeats 8000000 in
set_option maxRecDepth 100000 in
theorem uses.w25 (w : World) : Calls Try.prog 51 #[.int .i64 25] w fun re w' => re = .returned (B3 (true, false, true)) ∧ Below w.heap.size w w' := by
 go_enter Try.func51, Try.ntmps51
 go_wp2
 refine bodyPost_ret (results_cell_row rfl _ _ w.heap.size _ _ _ _ rfl (heap_alloc_new w _) Try.underlying119 rfl rfl) rfl ?_
 exact ⟨rfl, by go_grown⟩
set_option maxHeartbeats 8000000 in
set_option maxRecDepth 100000 in
theorem uses.w18 (w : World) : Calls Try.prog 51 #[.int .i64 18] w fun re w' => re = .returned (B3 (false, true, true)) ∧ Below w.heap.size w w' := by
 go_enter Try.func51, Try.ntmps51
 go_wp2
 refine bodyPost_ret (results_cell_row rfl _ _ w.heap.size _ _ _ _ rfl (heap_alloc_new w _) Try.underlying119 rfl rfl) rfl ?_
 exact ⟨rfl, by go_grown⟩
set_option maxHeartbeats 8000000 in
set_option maxRecDepth 100000 in
theorem uses.w20 (w : World) : Calls Try.prog 51 #[.int .i64 20] w fun re w' => re = .returned (B3 (false, true, true)) ∧ Below w.heap.size w w' := by
 go_enter Try.func51, Try.ntmps51
 go_wp2
 refine bodyPost_ret (results_cell_row rfl _ _ w.heap.size _ _ _ _ rfl (heap_alloc_new w _) Try.underlying119 rfl rfl) rfl ?_
 exact ⟨rfl, by go_grown⟩
set_option maxHeartbeats 8000000 in
set_option maxRecDepth 100000 in
theorem uses.w16 (w : World) : Calls Try.prog 51 #[.int .i64 16] w fun re w' => re = .returned (B3 (true, true, true)) ∧ Below w.heap.size w w' := by
 go_enter Try.func51, Try.ntmps51
 go_wp2
 refine bodyPost_ret (results_cell_row rfl _ _ w.heap.size _ _ _ _ rfl (heap_alloc_new w _) Try.underlying119 rfl rfl) rfl ?_
 exact ⟨rfl, by go_grown⟩
set_option maxHeartbeats 8000000 in
set_option maxRecDepth 100000 in
theorem uses.wx (op : Int) (h8 : op ≠ 8) (h9 : op ≠ 9) (h10 : op ≠ 10) (h11 : op ≠ 11) (h15 : op ≠ 15) (h27 : op ≠ 27) (h28 : op ≠ 28) (h29 : op ≠ 29) (h30 : op ≠ 30) (h35 : op ≠ 35) (h36 : op ≠ 36) (h19 : op ≠ 19) (h21 : op ≠ 21) (h22 : op ≠ 22) (h23 : op ≠ 23) (h12 : op ≠ 12) (h17 : op ≠ 17) (h25 : op ≠ 25) (h18 : op ≠ 18) (h20 : op ≠ 20) (h16 : op ≠ 16) (w : World) : Calls Try.prog 51 #[.int .i64 op] w fun re w' => re = .returned (B3 (true, false, false)) ∧ Below w.heap.size w w' := by
 go_enter Try.func51, Try.ntmps51
 go_wp2
 refine bodyPost_ret (results_cell_row rfl _ _ w.heap.size _ _ _ _ rfl (heap_alloc_new w _) Try.underlying119 rfl rfl) rfl ?_
 exact ⟨rfl, by go_grown⟩
theorem uses.walk (op : Int) (w : World) : Calls Try.prog 51 #[.int .i64 op] w fun re w' => re = .returned (B3 (usesV op)) ∧ Below w.heap.size w w' := by
 by_cases h8 : op = 8
 ·
  subst h8; exact uses.w8 w
 by_cases h9 : op = 9
 ·
  subst h9; exact uses.w9 w
 by_cases h10 : op = 10
 ·
  subst h10; exact uses.w10 w
 by_cases h11 : op = 11
 ·
  subst h11; exact uses.w11 w
 by_cases h15 : op = 15
 ·
  subst h15; exact uses.w15 w
 by_cases h27 : op = 27
 ·
  subst h27; exact uses.w27 w
 by_cases h28 : op = 28
 ·
  subst h28; exact uses.w28 w
 by_cases h29 : op = 29
 ·
  subst h29; exact uses.w29 w
 by_cases h30 : op = 30
 ·
  subst h30; exact uses.w30 w
 by_cases h35 : op = 35
 ·
  subst h35; exact uses.w35 w
 by_cases h36 : op = 36
 ·
  subst h36; exact uses.w36 w
 by_cases h19 : op = 19
 ·
  subst h19; exact uses.w19 w
 by_cases h21 : op = 21
 ·
  subst h21; exact uses.w21 w
 by_cases h22 : op = 22
 ·
  subst h22; exact uses.w22 w
 by_cases h23 : op = 23
 ·
  subst h23; exact uses.w23 w
 by_cases h12 : op = 12
 ·
  subst h12; exact uses.w12 w
 by_cases h17 : op = 17
 ·
  subst h17; exact uses.w17 w
 by_cases h25 : op = 25
 ·
  subst h25; exact uses.w25 w
 by_cases h18 : op = 18
 ·
  subst h18; exact uses.w18 w
 by_cases h20 : op = 20
 ·
  subst h20; exact uses.w20 w
 by_cases h16 : op = 16
 ·
  subst h16; exact uses.w16 w
 have e : usesV op = (true, false, false) := by unfold usesV; rw [if_neg (by omega), if_neg (by omega), if_neg (by omega), if_neg (by omega), if_neg (by omega), if_neg (by omega)]
 rw [e]
 exact uses.wx op h8 h9 h10 h11 h15 h27 h28 h29 h30 h35 h36 h19 h21 h22 h23 h12 h17 h25 h18 h20 h16 w
structure St (P0 : Nat → Prop) (w0 w : World) (g5 : Nat) (b1 b2 b3 : Bool) (v : Value) (l : List Int) (W : World) : Prop where
  row : Kd.R (Kd.int .u8) 5 W w0.heap.size (fun k => (P0 k ∨ w.heap.size ≤ k) ∧ k ≠ g5) v l
  below : Below w0.heap.size w0 W
  kept : Kept w W P0
  lt : g5 < W.heap.size
  cells : W.heap[g5]? = some (.cells #[.bool b1, .bool b2, .bool b3] 119 (0, 0))
theorem St.cell {P0 : Nat → Prop} {w0 w : World} {g5 : Nat} {b1 b2 b3 : Bool} {v : Value} {l : List Int} {W : World} (h : St P0 w0 w g5 b1 b2 b3 v l W) :
    W.cell? ⟨g5, 0, none⟩ = some (.bool b1) ∧ W.cell? ⟨g5, 1, none⟩ = some (.bool b2) ∧ W.cell? ⟨g5, 2, none⟩ = some (.bool b3) := by
  refine ⟨?_, ?_, ?_⟩ <;> simp [World.cell?, h.cells]
theorem St.put {P0 : Nat → Prop} {w0 w : World} {g5 : Nat} {b1 b2 b3 : Bool} {v : Value} {l : List Int} {W : World} (h : St P0 w0 w g5 b1 b2 b3 v l W) {k : Nat} {n : Int} {r : List Int}
 (hf : code_putCount.f k l n = some r) : Calls Try.prog 40 #[v, .int .u64 n] W fun e W' => ∃ v', e = .returned v' ∧ St P0 w0 w g5 b1 b2 b3 v' r W' := by
 refine (code_putCount.calls k (fun k_ => some k_ = v.ownBlock) v l n r w0 W h.below (Kd.R_tight rfl h.row) hf).mono ?_
 rintro e W' ⟨v', rfl, hr, hb, hk⟩
 refine ⟨v', rfl, ⟨Kd.R_mono hr (fun j hj => ?_), hb, h.kept.then_ hk (fun j hj => (h.row.1 j hj.symm).1), Nat.lt_of_lt_of_le h.lt hk.1, ?_⟩⟩
 ·
  rcases hj with hj | hj
  ·
   exact h.row.1 j hj.symm
  ·
   exact ⟨.inr (Nat.le_trans h.kept.1 hj), by have := h.lt; omega⟩
 ·
  rw [hk.2 g5 h.lt (fun e => (h.row.1 g5 e.symm).2 rfl)]
  exact h.cells
section
variable (x y z : Int) (w : World)
theorem inf3a : (Try.prog.info? 3).map (fun i => i.size) = some 1 := by kernel_rfl
theorem inf3 : ∃ i, Try.prog.info? 3 = some i ∧ i.size = 1 := Option.map_eq_some_iff.1 inf3a
theorem ix77_0 : (Instr.index 121 (.agg #[.int .i64 x, .int .i64 y, .int .i64 z]) (.int .i64 0)).run Try.prog w = .ok (.int .i64 x) w := by
  obtain ⟨i, h1, h2⟩ := inf3
  simp [Instr.index, run_underlying Try.underlying121, asIntOf, part, sizeOf, typeInfo, h1, h2, isAgg, run_underlying Try.underlying3, go_sem]
theorem ix77_1 : (Instr.index 121 (.agg #[.int .i64 x, .int .i64 y, .int .i64 z]) (.int .i64 1)).run Try.prog w = .ok (.int .i64 y) w := by
  obtain ⟨i, h1, h2⟩ := inf3
  simp [Instr.index, run_underlying Try.underlying121, asIntOf, part, sizeOf, typeInfo, h1, h2, isAgg, run_underlying Try.underlying3, go_sem]
theorem ix77_2 : (Instr.index 121 (.agg #[.int .i64 x, .int .i64 y, .int .i64 z]) (.int .i64 2)).run Try.prog w = .ok (.int .i64 z) w := by
  obtain ⟨i, h1, h2⟩ := inf3
  simp [Instr.index, run_underlying Try.underlying121, asIntOf, part, sizeOf, typeInfo, h1, h2, isAgg, run_underlying Try.underlying3, go_sem]
end
attribute [local go_sem] ix77_0 ix77_1 ix77_2
def stepV (k : Nat) (b : Bool) (l : List Int) (n : Int) : Option (List Int) := if b = true then code_putCount.f k l (IntKind.u64.wrap n) else some l
def code_Encode_3.f (k : Nat) (l0 : List Int) (a1_0 a1_1 a1_2 a1_3 : Int) : Option (List Int) :=
  if l0.length < 140737488355328 then (stepV k (usesV a1_0).1 (l0 ++ [a1_0 % 256]) a1_1).bind fun t1 => (stepV k (usesV a1_0).2.1 t1 a1_2).bind fun t2 => stepV k (usesV a1_0).2.2 t2 a1_3 else none
set_option maxHeartbeats 8000000 in
set_option maxRecDepth 100000 in
theorem enc3_head (k : Nat) (t1 t2 r : List Int) (P0 : Nat → Prop) (u : Value) (l0 : List Int) (a0 a1 a2 a3 : Int) (b1 b2 b3 : Bool) (hu : usesV a0 = (b1, b2, b3)) (w0 w : World) (hB : Below w0.heap.size w0 w) (ho0 : Kd.R (Kd.int .u8) 5 w w0.heap.size P0 u l0) (hl : l0.length < 140737488355328) (s1 : stepV k b1 (l0 ++ [a0 % 256]) a1 = some t1) (s2 : stepV k b2 t1 a2 = some t2) (s3 : stepV k b3 t2 a3 = some r) :
 Calls Try.prog 50 #[u, .agg #[.int .i64 a0, .int .i64 a1, .int .i64 a2, .int .i64 a3]] w fun e w' => ∃ v' : Value, e = .returned v' ∧ Kd.R (Kd.int .u8) 5 w' w0.heap.size (fun k_ => (P0 k_ ∨ w.heap.size ≤ k_)) v' r ∧ Below w0.heap.size w0 w' ∧ Kept w w' (fun k_ => P0 k_) := by
 obtain ⟨Ao, co, eo⟩ := Kd.R_slice ho0
 subst eo
 go_enter Try.func50, Try.ntmps50
 have hlt := Kd.R_lt ho0
 have uw : ∀ W, Calls Try.prog 51 #[.int .i64 a0] W fun re w' => re = .returned (.agg #[.bool b1, .bool b2, .bool b3]) ∧ Below W.heap.size W w' := fun W => by
  have := uses.walk a0 W
  rw [hu] at this
  exact this
 go_wp2_with (first | ((with_reducible refine gate_builtin (b := .append) (xs := #[.tmp 8, .tmp 12]) rfl ?_); at_builtin; refine Kd.R_append (Kd.int .u8) (w0 := w0) w0.heap.size rfl (.tmp 8) (.tmp 12) 53 5 (.int .u8 0) 1 rfl Try.underlying53 info5 rfl (by decide) (by omega) (.slice Ao l0.length co) l0 (a0 % 256) [.int .u8 (a0 % 256)] (fun k_ => P0 k_ ∨ w.heap.size ≤ k_) (fun _ => False) rfl (by rw [World.size_alloc]; rfl) ?aP (fun _ hk => hk.elim) ?aF ?aO ?aB ?aS ?aL ?_; (case aP => exact rfl); (case aB => exact below_alloc hB _); (case aF => exact (fun k_ hk => .inr (by simp only [World.size_alloc] at hk; omega))); (case aO => exact Kd.R_alloc (Kd.R_mono ho0 (fun _ h => .inl h)) _); (case aS => have := hB.size; simp only [World.size_alloc]; omega); (case aL => omega); intro v1 w2 hr hb hg hat; have hk2 : Kept w w2 P0 := Kept.of_grown hg ((Kept.refl w P0).alloc _) (fun k e => .inl (ho0.1 k e)); have q0 : w2.heap[w.heap.size]? = some (Obj.cells #[Value.int IntKind.i64 a0, Value.int IntKind.i64 a1, Value.int IntKind.i64 a2, Value.int IntKind.i64 a3] 66) := (hg.block w.heap.size (by simp only [World.size_alloc]; omega) (fun he => by have := hlt _ he.symm; omega)).trans (heap_alloc_new w _); have q1 : w2.cell? ⟨w.heap.size, 0, none⟩ = some (.int .i64 a0) := by simp [World.cell?, q0]))
 refine (uw w2).mono ?_
 rintro e w3 ⟨rfl, bel3⟩
 have lt2 : w.heap.size < w2.heap.size := by have := hg.size; simp only [World.size_alloc] at this; omega
 have q3 : w3.heap[w.heap.size]? = some (Obj.cells #[Value.int IntKind.i64 a0, Value.int IntKind.i64 a1, Value.int IntKind.i64 a2, Value.int IntKind.i64 a3] 66) := by rw [bel3.block _ lt2]; exact q0
 have lt3 : w.heap.size < w3.heap.size := Nat.lt_of_lt_of_le lt2 bel3.size
 have q4 : (w3.alloc (Obj.cells #[Value.bool b1, Value.bool b2, Value.bool b3] 119)).heap[w.heap.size]? = some (Obj.cells #[Value.int IntKind.i64 a0, Value.int IntKind.i64 a1, Value.int IntKind.i64 a2, Value.int IntKind.i64 a3] 66) := by rw [heap_alloc_old _ _ lt3]; exact q3
 have q5 : (w3.alloc (Obj.cells #[Value.bool b1, Value.bool b2, Value.bool b3] 119)).cell? ⟨w.heap.size, 1, none⟩ = some (.int .i64 a1) := by simp [World.cell?, q4]
 have q6 : (w3.alloc (Obj.cells #[Value.bool b1, Value.bool b2, Value.bool b3] 119)).cell? ⟨w.heap.size, 2, none⟩ = some (.int .i64 a2) := by simp [World.cell?, q4]
 have q7 : (w3.alloc (Obj.cells #[Value.bool b1, Value.bool b2, Value.bool b3] 119)).cell? ⟨w.heap.size, 3, none⟩ = some (.int .i64 a3) := by simp [World.cell?, q4]
 go_wp2_with (fail)
 have hS : St P0 w0 w w3.heap.size b1 b2 b3 v1 (l0 ++ [a0 % 256]) (w3.alloc (Obj.cells #[Value.bool b1, Value.bool b2, Value.bool b3] 119)) := by
  refine ⟨?_, ?_, ?_, ?_, heap_alloc_new w3 _⟩
  ·
   refine Kd.R_alloc (Kd.R_below ?_ bel3) _
   exact Kd.R_reok rfl hr (fun k e => ⟨hr.1 k e, by have := Kd.R_lt hr k e; have := bel3.size; omega⟩)
  ·
   exact below_alloc (hb.trans (bel3.mono hb.size)) _
  ·
   exact (hk2.below bel3).alloc _
  ·
   simp only [World.size_alloc]; omega
 have hg5 : ∃ g5, g5 = w3.heap.size := ⟨_, rfl⟩
 obtain ⟨g5, hg5⟩ := hg5
 rw [← hg5] at hS ⊢
 generalize w3.alloc (Obj.cells #[Value.bool b1, Value.bool b2, Value.bool b3] 119) = w4 at hS ⊢
 clear q7 q6 q5 q4 q3 q1 q0 lt3 lt2 bel3 hk2 hat hg hb hr uw hlt ho0 hB hg5
 refine wp_loop_rounds 4 ?_
 obtain ⟨e0, e1, e2⟩ := hS.cell
 cases b1
 ·
  change some _ = some _ at s1
  cases b2
  ·
   change some _ = some _ at s2
   cases b3
   ·
    change some _ = some _ at s3
    rw [rounds_succ]
    obtain rfl := Option.some.inj s1
    go_wp2_with (fail)
    rw [rounds_succ]
    obtain rfl := Option.some.inj s2
    go_wp2_with (fail)
    rw [rounds_succ]
    obtain rfl := Option.some.inj s3
    go_wp2_with (fail)
    rw [rounds_succ]
    go_wp2_with (fail)
    go_ret
    exact ⟨_, rfl, Kd.R_mono hS.row (fun _ h => h.1), hS.below, hS.kept⟩
   ·
    change code_putCount.f k _ _ = some _ at s3
    rw [rounds_succ]
    obtain rfl := Option.some.inj s1
    go_wp2_with (fail)
    rw [rounds_succ]
    obtain rfl := Option.some.inj s2
    go_wp2_with (fail)
    rw [rounds_succ]
    go_wp2_with (fail)
    refine (hS.put s3).mono ?_
    clear hS e0 e1 e2
    rintro e W2 ⟨u2, rfl, hS⟩
    obtain ⟨e0, e1, e2⟩ := hS.cell
    go_wp2_with (fail)
    rw [rounds_succ]
    go_wp2_with (fail)
    go_ret
    exact ⟨_, rfl, Kd.R_mono hS.row (fun _ h => h.1), hS.below, hS.kept⟩
  ·
   change code_putCount.f k _ _ = some _ at s2
   cases b3
   ·
    change some _ = some _ at s3
    rw [rounds_succ]
    obtain rfl := Option.some.inj s1
    go_wp2_with (fail)
    rw [rounds_succ]
    go_wp2_with (fail)
    refine (hS.put s2).mono ?_
    clear hS e0 e1 e2
    rintro e W1 ⟨u1, rfl, hS⟩
    obtain ⟨e0, e1, e2⟩ := hS.cell
    go_wp2_with (fail)
    rw [rounds_succ]
    obtain rfl := Option.some.inj s3
    go_wp2_with (fail)
    rw [rounds_succ]
    go_wp2_with (fail)
    go_ret
    exact ⟨_, rfl, Kd.R_mono hS.row (fun _ h => h.1), hS.below, hS.kept⟩
   ·
    change code_putCount.f k _ _ = some _ at s3
    rw [rounds_succ]
    obtain rfl := Option.some.inj s1
    go_wp2_with (fail)
    rw [rounds_succ]
    go_wp2_with (fail)
    refine (hS.put s2).mono ?_
    clear hS e0 e1 e2
    rintro e W1 ⟨u1, rfl, hS⟩
    obtain ⟨e0, e1, e2⟩ := hS.cell
    go_wp2_with (fail)
    rw [rounds_succ]
    go_wp2_with (fail)
    refine (hS.put s3).mono ?_
    clear hS e0 e1 e2
    rintro e W2 ⟨u2, rfl, hS⟩
    obtain ⟨e0, e1, e2⟩ := hS.cell
    go_wp2_with (fail)
    rw [rounds_succ]
    go_wp2_with (fail)
    go_ret
    exact ⟨_, rfl, Kd.R_mono hS.row (fun _ h => h.1), hS.below, hS.kept⟩
 ·
  change code_putCount.f k _ _ = some _ at s1
  cases b2
  ·
   change some _ = some _ at s2
   cases b3
   ·
    change some _ = some _ at s3
    rw [rounds_succ]
    go_wp2_with (fail)
    refine (hS.put s1).mono ?_
    clear hS e0 e1 e2
    rintro e W0 ⟨u0, rfl, hS⟩
    obtain ⟨e0, e1, e2⟩ := hS.cell
    go_wp2_with (fail)
    rw [rounds_succ]
    obtain rfl := Option.some.inj s2
    go_wp2_with (fail)
    rw [rounds_succ]
    obtain rfl := Option.some.inj s3
    go_wp2_with (fail)
    rw [rounds_succ]
    go_wp2_with (fail)
    go_ret
    exact ⟨_, rfl, Kd.R_mono hS.row (fun _ h => h.1), hS.below, hS.kept⟩
   ·
    change code_putCount.f k _ _ = some _ at s3
    rw [rounds_succ]
    go_wp2_with (fail)
    refine (hS.put s1).mono ?_
    clear hS e0 e1 e2
    rintro e W0 ⟨u0, rfl, hS⟩
    obtain ⟨e0, e1, e2⟩ := hS.cell
    go_wp2_with (fail)
    rw [rounds_succ]
    obtain rfl := Option.some.inj s2
    go_wp2_with (fail)
    rw [rounds_succ]
    go_wp2_with (fail)
    refine (hS.put s3).mono ?_
    clear hS e0 e1 e2
    rintro e W2 ⟨u2, rfl, hS⟩
    obtain ⟨e0, e1, e2⟩ := hS.cell
    go_wp2_with (fail)
    rw [rounds_succ]
    go_wp2_with (fail)
    go_ret
    exact ⟨_, rfl, Kd.R_mono hS.row (fun _ h => h.1), hS.below, hS.kept⟩
  ·
   change code_putCount.f k _ _ = some _ at s2
   cases b3
   ·
    change some _ = some _ at s3
    rw [rounds_succ]
    go_wp2_with (fail)
    refine (hS.put s1).mono ?_
    clear hS e0 e1 e2
    rintro e W0 ⟨u0, rfl, hS⟩
    obtain ⟨e0, e1, e2⟩ := hS.cell
    go_wp2_with (fail)
    rw [rounds_succ]
    go_wp2_with (fail)
    refine (hS.put s2).mono ?_
    clear hS e0 e1 e2
    rintro e W1 ⟨u1, rfl, hS⟩
    obtain ⟨e0, e1, e2⟩ := hS.cell
    go_wp2_with (fail)
    rw [rounds_succ]
    obtain rfl := Option.some.inj s3
    go_wp2_with (fail)
    rw [rounds_succ]
    go_wp2_with (fail)
    go_ret
    exact ⟨_, rfl, Kd.R_mono hS.row (fun _ h => h.1), hS.below, hS.kept⟩
   ·
    change code_putCount.f k _ _ = some _ at s3
    rw [rounds_succ]
    go_wp2_with (fail)
    refine (hS.put s1).mono ?_
    clear hS e0 e1 e2
    rintro e W0 ⟨u0, rfl, hS⟩
    obtain ⟨e0, e1, e2⟩ := hS.cell
    go_wp2_with (fail)
    rw [rounds_succ]
    go_wp2_with (fail)
    refine (hS.put s2).mono ?_
    clear hS e0 e1 e2
    rintro e W1 ⟨u1, rfl, hS⟩
    obtain ⟨e0, e1, e2⟩ := hS.cell
    go_wp2_with (fail)
    rw [rounds_succ]
    go_wp2_with (fail)
    refine (hS.put s3).mono ?_
    clear hS e0 e1 e2
    rintro e W2 ⟨u2, rfl, hS⟩
    obtain ⟨e0, e1, e2⟩ := hS.cell
    go_wp2_with (fail)
    rw [rounds_succ]
    go_wp2_with (fail)
    go_ret
    exact ⟨_, rfl, Kd.R_mono hS.row (fun _ h => h.1), hS.below, hS.kept⟩
theorem code_Encode_3.calls (k : Nat) (P0_ : Nat → Prop) (u9000_ : Value) (l0 : List Int) (a1_0 a1_1 a1_2 a1_3 : Int) (r : List Int) (w0 w : World) (hB : Below w0.heap.size w0 w) (ho0 : Kd.R (Kd.int .u8) 5 w w0.heap.size P0_ u9000_ l0) (h : code_Encode_3.f k l0 a1_0 a1_1 a1_2 a1_3 = some r) :
 Calls Try.prog 50 #[u9000_, .agg #[.int .i64 a1_0, .int .i64 a1_1, .int .i64 a1_2, .int .i64 a1_3]] w fun e w' => ∃ v0_ : Value, e = .returned (v0_) ∧ Kd.R (Kd.int .u8) 5 w' w0.heap.size (fun k_ => (P0_ k_ ∨ w.heap.size ≤ k_)) v0_ r ∧ Below w0.heap.size w0 w' ∧ Kept w w' (fun k_ => P0_ k_) := by
 unfold code_Encode_3.f at h
 split at h
 ·
  rename_i hl
  obtain ⟨t1, s1, h⟩ := Option.bind_eq_some_iff.mp h
  obtain ⟨t2, s2, s3⟩ := Option.bind_eq_some_iff.mp h
  exact enc3_head k t1 t2 r P0_ u9000_ l0 a1_0 a1_1 a1_2 a1_3 _ _ _ rfl w0 w hB ho0 hl s1 s2 s3
 ·
  exact absurd h (by simp)
def api_Instr_49.l0 : Nat → List Int → List (S66) → Int → Int → Option (List Int)
  | 0, _, _, _, _ => none
  | k + 1, x0, x14, x15, x16 => if x16 < x15 then (if 0 ≤ x16 then (if x16 < (x14.length : Int) then ((code_Encode_3.f k x0 ((rd_T66 x14 x16).f0) ((rd_T66 x14 x16).f1) ((rd_T66 x14 x16).f2) ((rd_T66 x14 x16).f3)).bind fun t537 => (api_Instr_49.l0 k t537 x14 x15 (wrap64 (x16 + 1)))) else (none)) else (none)) else (some x0)
def api_Instr_49.f (k : Nat) (l0 : List Int) (l1 : List (S66)) : Option (List Int) := (code_putCount.f k l0 (IntKind.u64.wrap ((l1.length : Int)))).bind fun t532 => (api_Instr_49.l0 k t532 l1 (l1.length : Int) 0)
set_option maxHeartbeats 8000000 in
set_option maxRecDepth 100000 in
theorem api_Instr_49.calls (k : Nat) (P0_ : Nat → Prop) (u9000_ : Value) (l0 : List Int) (A1 : Option Addr) (c1 : Nat) (l1 : List (S66)) (r : List Int) (w0 w : World) (hB : Below w0.heap.size w0 w) (ho0 : Kd.R (Kd.int .u8) 5 w w0.heap.size P0_ u9000_ l0) (hr1 : ∀ W_, Kept w W_ (fun k_ => P0_ k_) → Kd.C k66 W_ A1 l1.length l1) (hc1 : l1.length ≤ c1) (h : api_Instr_49.f k l0 l1 = some r) :
 Calls Try.prog 49 #[u9000_, .slice A1 l1.length c1, .func (.func 50) #[] #[]] w fun e w' => ∃ v0_ : Value, e = .returned (v0_) ∧ Kd.R (Kd.int .u8) 5 w' w0.heap.size (fun k_ => (P0_ k_ ∨ w.heap.size ≤ k_)) v0_ r ∧ Below w0.heap.size w0 w' ∧ Kept w w' (fun k_ => P0_ k_) := by
 have hu66 := Try.underlying66
 have HO0 := Aside0.mk (show Kd.R (Kd.int .u8) 5 w w0.heap.size (fun k_ => (P0_ k_ ∨ w.heap.size ≤ k_)) u9000_ l0 from Kd.R_mono ho0 (fun k_ hk => (.inl hk)))
 have HR1 := Aside0.mk hr1
 have HC1 := Aside0.mk hc1
 clear hr1 hc1
 have HK := Aside0.mk (Kept.refl w (fun k_ => P0_ k_))
 have HW0 := Aside0.mk hB.size
 have HB := Aside0.mk hB
 clear hB
 have H : ((code_putCount.f k l0 (IntKind.u64.wrap ((l1.length : Int)))).bind fun t532 => (api_Instr_49.l0 k t532 l1 (l1.length : Int) 0)) = some r := h
 clear h
 replace H := Option.bind_eq_some_iff.mp H
 obtain ⟨t532, A30, H⟩ := H
 replace H : (api_Instr_49.l0 k t532 l1 (l1.length : Int) 0) = some r := H
 have A3 := Aside0.mk A30
 clear A30
 have H' := Aside0.mk H
 clear H
 obtain ⟨Ao4, co4, eo4⟩ := Kd.R_slice HO0.out
 subst eo4
 go_enter Try.func49, Try.ntmps49
 go_wp2_with (first | ((with_reducible refine gate_callee (f := 40) rfl ?_); refine goesL_ (some 13) rfl rfl Try.func40 (by kernel_rfl) rfl #[.slice Ao4 l0.length co4, .int .u64 (IntKind.u64.wrap ((l1.length : Int)))] rfl (by (try simp only [List.map_toArray, List.map_cons, List.map_nil]); first | done | rfl | (simp only [List.length_drop, List.length_take]; rfl)) ?_; (with_reducible refine (code_putCount.calls k (fun k_ => some k_ = (.slice Ao4 l0.length co4 : Value).ownBlock) (.slice Ao4 l0.length co4) l0 (IntKind.u64.wrap ((l1.length : Int))) t532 w0 _ ?side1 ?side2 A3.out).mono ?_); (case side1 => repeat (first | (with_reducible first | exact HB.out | apply below_alloc | apply pw_below_drewN | apply below_drew1) | exact HB.out)); (case side2 => exact Kd.R_tight rfl HO0.out); rintro e w5 ⟨v533, rfl, ho0, hb, hkp⟩; refine ⟨_, rfl, ?_⟩; have n0_ := Aside0.mk (Kd.R_mono (ok' := fun k_ => (P0_ k_ ∨ w.heap.size ≤ k_)) ho0 (fun k_ hk_ => Or.elim hk_ (fun hs_ => (HO0.out.1 k_ (hs_).symm)) (fun hn_ => (.inr (Nat.le_trans (by first | exact HK.out.1 | exact (show Kept w _ (fun k_ => P0_ k_) from by repeat (first | (with_reducible first | exact HK.out | apply Kept.alloc | apply Kept.drewN | apply Kept.drew) | exact HK.out)).1) hn_))))); have n1_ := Aside0.mk (Kept.then_ (S := (fun k_ => P0_ k_)) (by repeat (first | (with_reducible first | exact HK.out | apply Kept.alloc | apply Kept.drewN | apply Kept.drew) | exact HK.out)) hkp (fun k_ hs_ => (fun e_ => (HO0.out.1 k_ e_.symm)) hs_)); have n2_ := Aside0.mk (hb); clear HK; clear HB; clear HO0; have HO534 := n0_; have HK := n1_; have HB := n2_; clear n0_ n1_ n2_; (try clear hb); (try clear hkp); (try clear ho0)))
 go_loopg [0, 16] k (fun kq v0 v16 w' => ∃ (x0_1 : List Int) (x16_1 : Int), v16 = .int .i64 x16_1 ∧ Aside0 (api_Instr_49.l0 kq x0_1 l1 (l1.length : Int) x16_1 = some r) ∧ Aside0 (kq ≤ k) ∧ Aside0 (Kd.R (Kd.int .u8) 5 w' w0.heap.size (fun k_ => (P0_ k_ ∨ w.heap.size ≤ k_)) v0 x0_1) ∧ Aside0 (Kept w w' (fun k_ => P0_ k_)) ∧ Aside0 (Below w0.heap.size w0 w'))
 case atStart => exact ⟨(t532), (0), (by first | rfl | (simp; done) | (simp [*]; done) | (simp only [i64_w]; done) | (simp [i64_w, Int.tdiv_eq_ediv_of_nonneg]; done)), H', ⟨Nat.le_refl _⟩, ⟨by (with_reducible repeat (first | apply Kd.R_alloc | apply Kd.R_drewN | apply Kd.R_drew)); exact HO534.out⟩, ⟨by repeat (first | (with_reducible first | exact HK.out | apply Kept.alloc | apply Kept.drewN | apply Kept.drew) | exact HK.out)⟩, ⟨by repeat (first | (with_reducible first | exact HB.out | apply below_alloc | apply pw_below_drewN | apply below_drew1) | exact HB.out)⟩⟩
 case round =>
  clear H'
  try clear c1
  try clear p2
  try clear c4
  obtain ⟨x0_1, x16_1, rfl, HA, HK1, HO_0, HK, HB⟩ := hrel
  cases gk with
  | zero => exact absurd HA.out (by simp [api_Instr_49.l0])
  | succ k1 =>
   have H := HA.out
   clear HA
   simp only [api_Instr_49.l0] at H
   by_cases c6 : x16_1 < (l1.length : Int)
   ·
    rw [if_pos c6] at H
    have c6b0 : decide (x16_1 < (l1.length : Int)) = true := decide_eq_true c6
    clear c6
    by_cases c7 : 0 ≤ x16_1
    ·
     rw [if_pos c7] at H
     have c7b0 : decide (0 ≤ x16_1) = true := decide_eq_true c7
     clear c7
     by_cases c8 : x16_1 < (l1.length : Int)
     ·
      rw [if_pos c8] at H
      have c8b0 : decide (x16_1 < (l1.length : Int)) = true := decide_eq_true c8
      clear c8
      replace H := Option.bind_eq_some_iff.mp H
      obtain ⟨t537, A90, H⟩ := H
      replace H : (api_Instr_49.l0 k1 t537 l1 (l1.length : Int) (wrap64 (x16_1 + 1))) = some r := H
      have A9 := Aside0.mk A90
      clear A90
      have H' := Aside0.mk H
      clear H
      have p535 : 0 ≤ (x16_1 : Int) := of_decide_eq_true (by first | (with_reducible assumption) | assumption)
      have q535 : x16_1 < (l1.length : Int) := of_decide_eq_true (by first | (with_reducible assumption) | assumption)
      obtain ⟨ad535, e535, hx535_0, hx535_1, hx535_2, hx535_3⟩ := at_T66 (Kd.C_kept_now HR1.out HK.out) x16_1 p535 q535
      cases e535
      replace p535 := eq_true p535
      replace q535 := eq_true q535
      go_wp2_with (first | ((with_reducible refine gate_dst (N := 8) rfl ?_); refine box_event ?hg (N := 8) ?hd (cs := #[.int .i64 0, .int .i64 0, .int .i64 0, .int .i64 0]) (t := 66) ?hr ?_; (case hd => rfl); (case hg => rfl); (case hr => first | (go_simp; done) | (go_simp; rfl)); intro gb536 hg w10 hbox hb; have n0_ := Aside0.mk (Kd.R_below (by (with_reducible repeat (first | apply Kd.R_alloc | apply Kd.R_drewN | apply Kd.R_drew)); exact HO_0.out) hb); have n1_ := Aside0.mk (Kept.below (S := (fun k_ => P0_ k_)) (by repeat (first | (with_reducible first | exact HK.out | apply Kept.alloc | apply Kept.drewN | apply Kept.drew) | exact HK.out)) hb); have n2_ := Aside0.mk (below_step (by repeat (first | (with_reducible first | exact HB.out | apply below_alloc | apply pw_below_drewN | apply below_drew1) | exact HB.out)) hb); have n3_ := Aside0.mk (hbox); have n4_ := Aside0.mk ((by rw [hg]; exact (by first | exact HK.out.1 | exact (show Kept w _ (fun k_ => P0_ k_) from by repeat (first | (with_reducible first | exact HK.out | apply Kept.alloc | apply Kept.drewN | apply Kept.drew) | exact HK.out)).1) : w.heap.size ≤ gb536)); have n5_ := Aside0.mk ((by rw [hg]; exact (below_size (by repeat (first | (with_reducible first | exact HB.out | apply below_alloc | apply pw_below_drewN | apply below_drew1) | exact HB.out))) : w0.heap.size ≤ gb536)); clear HO_0; clear HK; clear HB; have HO_0 := n0_; have HK := n1_; have HB := n2_; have BK536 := n3_; have GW536 := n4_; have GE536 := n5_; clear n0_ n1_ n2_ n3_ n4_ n5_; clear hb hbox hg; have hcz11_0 : w10.cell? ⟨gb536, 0, none⟩ = some (.int .i64 0) := (blk_cell BK536.out 0).trans rfl; have hcz11_1 : w10.cell? ⟨gb536, 1, none⟩ = some (.int .i64 0) := (blk_cell BK536.out 1).trans rfl; have hcz11_2 : w10.cell? ⟨gb536, 2, none⟩ = some (.int .i64 0) := (blk_cell BK536.out 2).trans rfl; have hcz11_3 : w10.cell? ⟨gb536, 3, none⟩ = some (.int .i64 0) := (blk_cell BK536.out 3).trans rfl; have hfz11_0 := blk_frozen BK536.out 0; have hfz11_1 := blk_frozen BK536.out 1; have hfz11_2 := blk_frozen BK536.out 2; have hfz11_3 := blk_frozen BK536.out 3) | ((with_reducible refine gate_store (t := 66) (p := 8) rfl ?_); refine store_event (t := 66) (p := 8) (v := ?vo_w12) (w1 := ((((w10.setCell ⟨gb536, 0, none⟩ (.int .i64 ((rd_T66 l1 x16_1).f0))).setCell ⟨gb536, 1, none⟩ (.int .i64 ((rd_T66 l1 x16_1).f1))).setCell ⟨gb536, 2, none⟩ (.int .i64 ((rd_T66 l1 x16_1).f2))).setCell ⟨gb536, 3, none⟩ (.int .i64 ((rd_T66 l1 x16_1).f3)))) ?hg ?ho ?hn ?hr ?_; (case ho => rfl); (case hg => rfl); (case hn => rfl); (case hr => first | (go_simp; done) | (go_simp; rfl)); intro w12 hw; have n0_ : Aside0 (Kd.R (Kd.int .u8) 5 w12 w0.heap.size (fun k_ => (P0_ k_ ∨ w.heap.size ≤ k_)) u0 x0_1) := ⟨(by rw [hw]; exact (by (with_reducible repeat (first | apply Kd.R_alloc | apply Kd.R_drewN | apply Kd.R_drew)); exact Kd.R_mono (Kd.R_far (p := ⟨gb536, 3, none⟩) (Kd.R_far (p := ⟨gb536, 2, none⟩) (Kd.R_far (p := ⟨gb536, 1, none⟩) (Kd.R_far (p := ⟨gb536, 0, none⟩) (Kd.R_types HO_0.out BK536.out (by decide)) (fun _ hk => hk.2) (.int .i64 ((rd_T66 l1 x16_1).f0))) (fun _ hk => hk.2) (.int .i64 ((rd_T66 l1 x16_1).f1))) (fun _ hk => hk.2) (.int .i64 ((rd_T66 l1 x16_1).f2))) (fun _ hk => hk.2) (.int .i64 ((rd_T66 l1 x16_1).f3))) (fun _ hk => hk.1)))⟩; have n1_ : Aside0 (w12.heap[gb536]? = some (.cells #[.int .i64 ((rd_T66 l1 x16_1).f0), .int .i64 ((rd_T66 l1 x16_1).f1), .int .i64 ((rd_T66 l1 x16_1).f2), .int .i64 ((rd_T66 l1 x16_1).f3)] 66 (0, 0))) := ⟨(by rw [hw]; exact (by (with_reducible repeat (first | refine blk_drewN ?_ _ | refine blk_drew ?_ | refine blk_alloc ?_ _)); refine blk_put (cs := #[.int .i64 ((rd_T66 l1 x16_1).f0), .int .i64 ((rd_T66 l1 x16_1).f1), .int .i64 ((rd_T66 l1 x16_1).f2), .int .i64 0]) ?_ 3 _ rfl; (with_reducible repeat (first | refine blk_drewN ?_ _ | refine blk_drew ?_ | refine blk_alloc ?_ _)); refine blk_put (cs := #[.int .i64 ((rd_T66 l1 x16_1).f0), .int .i64 ((rd_T66 l1 x16_1).f1), .int .i64 0, .int .i64 0]) ?_ 2 _ rfl; (with_reducible repeat (first | refine blk_drewN ?_ _ | refine blk_drew ?_ | refine blk_alloc ?_ _)); refine blk_put (cs := #[.int .i64 ((rd_T66 l1 x16_1).f0), .int .i64 0, .int .i64 0, .int .i64 0]) ?_ 1 _ rfl; (with_reducible repeat (first | refine blk_drewN ?_ _ | refine blk_drew ?_ | refine blk_alloc ?_ _)); refine blk_put (cs := #[.int .i64 0, .int .i64 0, .int .i64 0, .int .i64 0]) ?_ 0 _ rfl; (with_reducible repeat (first | refine blk_drewN ?_ _ | refine blk_drew ?_ | refine blk_alloc ?_ _)); exact BK536.out))⟩; have n2_ : Aside0 (Kept w w12 (fun k_ => P0_ k_)) := ⟨(by rw [hw]; exact (by repeat (first | (with_reducible first | exact HK.out | apply Kept.alloc | apply Kept.drewN | apply Kept.drew | refine Kept.setCell ?_ (.inr GW536.out) _) | exact HK.out)))⟩; have n3_ : Aside0 (Below w0.heap.size w0 w12) := ⟨(by rw [hw]; exact (by repeat (first | (with_reducible first | exact HB.out | apply below_alloc | apply pw_below_drewN | apply below_drew1 | refine below_set ?_ GE536.out) | exact HB.out)))⟩; clear hw; clear HO_0; clear BK536; clear HK; clear HB; have HO_0 := n0_; have BK536 := n1_; have HK := n2_; have HB := n3_; clear n0_ n1_ n2_ n3_; have hcz13_0 : w12.cell? ⟨gb536, 0, none⟩ = some (.int .i64 ((rd_T66 l1 x16_1).f0)) := (blk_cell BK536.out 0).trans rfl; have hcz13_1 : w12.cell? ⟨gb536, 1, none⟩ = some (.int .i64 ((rd_T66 l1 x16_1).f1)) := (blk_cell BK536.out 1).trans rfl; have hcz13_2 : w12.cell? ⟨gb536, 2, none⟩ = some (.int .i64 ((rd_T66 l1 x16_1).f2)) := (blk_cell BK536.out 2).trans rfl; have hcz13_3 : w12.cell? ⟨gb536, 3, none⟩ = some (.int .i64 ((rd_T66 l1 x16_1).f3)) := (blk_cell BK536.out 3).trans rfl; have hfz13_0 := blk_frozen BK536.out 0; have hfz13_1 := blk_frozen BK536.out 1; have hfz13_2 := blk_frozen BK536.out 2; have hfz13_3 := blk_frozen BK536.out 3; obtain ⟨Ao14, co14, eo14⟩ := Kd.R_slice HO_0.out; subst eo14) | ((with_reducible refine Go.Proofs.YtbnplhmmbnmagaaX.gate_slot (k := 20) rfl ?_); refine Go.Proofs.YtbnplhmmbnmagaaX.goesS_ (k := 20) (some 23) rfl rfl Try.func50 (by kernel_rfl) rfl rfl #[.slice Ao14 x0_1.length co14, .agg #[.int .i64 ((rd_T66 l1 x16_1).f0), .int .i64 ((rd_T66 l1 x16_1).f1), .int .i64 ((rd_T66 l1 x16_1).f2), .int .i64 ((rd_T66 l1 x16_1).f3)]] rfl (by (try simp only [List.map_toArray, List.map_cons, List.map_nil]); first | done | rfl | (simp only [List.length_drop, List.length_take]; rfl)) ?_; (with_reducible refine (code_Encode_3.calls k1 (fun k_ => some k_ = (.slice Ao14 x0_1.length co14 : Value).ownBlock) (.slice Ao14 x0_1.length co14) x0_1 ((rd_T66 l1 x16_1).f0) ((rd_T66 l1 x16_1).f1) ((rd_T66 l1 x16_1).f2) ((rd_T66 l1 x16_1).f3) t537 w0 _ ?side1 ?side2 A9.out).mono ?_); (case side1 => repeat (first | (with_reducible first | exact HB.out | apply below_alloc | apply pw_below_drewN | apply below_drew1 | refine below_set ?_ GE536.out) | exact HB.out)); (case side2 => exact Kd.R_tight rfl HO_0.out); rintro e w15 ⟨v538, rfl, ho0, hb, hkp⟩; refine ⟨_, rfl, ?_⟩; have n0_ := Aside0.mk (blk_kept (by (with_reducible repeat (first | refine blk_drewN ?_ _ | refine blk_drew ?_ | refine blk_alloc ?_ _)); exact BK536.out) hkp (fun hs_ => (fun e_ => (Kd.R_ne HO_0.out BK536.out (by decide)) e_) hs_)); have n1_ := Aside0.mk (Kd.R_mono (ok' := fun k_ => (P0_ k_ ∨ w.heap.size ≤ k_)) ho0 (fun k_ hk_ => Or.elim hk_ (fun hs_ => (HO_0.out.1 k_ (hs_).symm)) (fun hn_ => (.inr (Nat.le_trans (by first | exact HK.out.1 | exact (show Kept w _ (fun k_ => P0_ k_) from by repeat (first | (with_reducible first | exact HK.out | apply Kept.alloc | apply Kept.drewN | apply Kept.drew | refine Kept.setCell ?_ (.inr GW536.out) _) | exact HK.out)).1) hn_))))); have n2_ := Aside0.mk (Kept.then_ (S := (fun k_ => P0_ k_)) (by repeat (first | (with_reducible first | exact HK.out | apply Kept.alloc | apply Kept.drewN | apply Kept.drew | refine Kept.setCell ?_ (.inr GW536.out) _) | exact HK.out)) hkp (fun k_ hs_ => (fun e_ => (HO_0.out.1 k_ e_.symm)) hs_)); have n3_ := Aside0.mk (hb); clear BK536; clear HK; clear HB; clear HO_0; have BK536 := n0_; have HO539 := n1_; have HK := n2_; have HB := n3_; clear n0_ n1_ n2_ n3_; (try clear hb); (try clear hkp); (try clear ho0)))
      go_roundg k1
      case measure => have := HK1.out; omega
      case rel => exact ⟨(t537), (wrap64 (x16_1 + 1)), (by first | rfl | (simp; done) | (simp [*]; done) | (simp only [i64_w]; done) | (simp [i64_w, Int.tdiv_eq_ediv_of_nonneg]; done)), H', ⟨by have := HK1.out; omega⟩, ⟨by (with_reducible repeat (first | apply Kd.R_alloc | apply Kd.R_drewN | apply Kd.R_drew)); exact HO539.out⟩, ⟨by repeat (first | (with_reducible first | exact HK.out | apply Kept.alloc | apply Kept.drewN | apply Kept.drew | refine Kept.setCell ?_ (.inr GW536.out) _) | exact HK.out)⟩, ⟨by repeat (first | (with_reducible first | exact HB.out | apply below_alloc | apply pw_below_drewN | apply below_drew1 | refine below_set ?_ GE536.out) | exact HB.out)⟩⟩
     ·
      rw [if_neg c8] at H
      exact absurd H (by simp)
    ·
     rw [if_neg c7] at H
     exact absurd H (by simp)
   ·
    rw [if_neg c6] at H
    have c6b0 : decide (x16_1 < (l1.length : Int)) = false := decide_eq_false c6
    clear c6
    obtain rfl := Option.some.inj H
    go_wp2
    go_ret
    exact ⟨_, by first | rfl | (simp [errW_none, errW_some] <;> rfl) | (simp [*, errW_none, errW_some] <;> rfl), by (with_reducible repeat (first | apply Kd.R_alloc | apply Kd.R_drewN | apply Kd.R_drew)); exact HO_0.out, by repeat (first | (with_reducible first | exact HB.out | apply below_alloc | apply pw_below_drewN | apply below_drew1) | exact HB.out), by repeat (first | (with_reducible first | exact HK.out | apply Kept.alloc | apply Kept.drewN | apply Kept.drew) | exact HK.out)⟩
end Go.Proofs.Ytbnplhmmbnmagaa.All
namespace Go.Proofs.Ytbnplhmmbnmagaa.All
open Go.RowKit Go.Proofs.YtbnplhmmbnmagaaW.PrintWords Go.Proofs.YtbnplhmmbnmagaaW.PrintLast Go.Proofs.YtbnplhmmbnmagaaW.PrintMore
structure S28 where
  f0 : (List ByteArray)
  f1 : (List Int)
  f2 : (List (List ByteArray))
  f3 : (List (List Int))
  f4 : (List S66)
  f5 : Int
  f6 : Int
def k28 : Kd S28 := Kd.iso (Kd.pair (Kd.slice 9 Kd.string) (Kd.pair (Kd.slice 3 (Kd.int .i64)) (Kd.pair (Kd.slice 22 (Kd.slice 9 Kd.string)) (Kd.pair (Kd.slice 23 (Kd.slice 3 (Kd.int .i64))) (Kd.pair (Kd.slice 66 k66) (Kd.pair (Kd.int .i64) (Kd.int .i64))))))) (fun x : S28 => (x.f0, x.f1, x.f2, x.f3, x.f4, x.f5, x.f6))
end Go.Proofs.Ytbnplhmmbnmagaa.All
