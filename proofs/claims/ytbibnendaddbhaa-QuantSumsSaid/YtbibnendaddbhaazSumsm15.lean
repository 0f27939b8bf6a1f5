/- A part of the proof of QuantSums: walks written by a program of this session. -/
import Derived.Test.YtbibnendaddbhaazSumsm0
import Derived.Test.YtbibnendaddbhaazSumsm5
import Derived.Test.YtbibnendaddbhaazSumsm14
namespace Go.Proofs.Ytbibnendaddbhaa.All
open Go.RowKit Go.Proofs.YtbibnendaddbhaaW.PrintWords Go.Proofs.YtbibnendaddbhaaW.PrintLast Go.Proofs.YtbibnendaddbhaaW.PrintMore
attribute [local go_sem] max2_int min2_int max_two min_two max_three min_three max_four min_four
attribute [local go_sem] Go.Proofs.YtbibnendaddbhaaX.binOp_leq Go.Proofs.YtbibnendaddbhaaX.binOp_geq Go.Proofs.YtbibnendaddbhaaX.binOp_gtr
set_option linter.unusedVariables false
set_option linter.unusedSimpArgs false
def berthlaw02_QuantSums.l0 : Nat → List (S51) → Int → Int → Option (Bool)
  | 0, _, _, _ => none
  | k + 1, x7, x8, x9 => if x9 < x8 then (if 0 ≤ x9 then (if x9 < (x7.length : Int) then ((berthlaw02_sums.f k ((rd_T51 x7 x9).f0) ((rd_T51 x7 x9).f1) ((rd_T51 x7 x9).f2) ((rd_T51 x7 x9).f3) ((rd_T51 x7 x9).f4)).bind fun t483 => (if t483 = true then (berthlaw02_QuantSums.l0 k x7 x8 (wrap64 (x9 + 1))) else (some false))) else (none)) else (none)) else (some true)
def berthlaw02_QuantSums.f (k : Nat) (l0 : List (S51)) : Option (Bool) := (berthlaw02_fixedSum.f k).bind fun t480 => (if t480 = true then (berthlaw02_QuantSums.l0 k l0 (l0.length : Int) 0) else (some false))
theorem berthlaw02_QuantSums.mono_l : ∀ k, (∀ y0 y1 y2, LeO (berthlaw02_QuantSums.l0 k y0 y1 y2) (berthlaw02_QuantSums.l0 (k + 1) y0 y1 y2))
  | 0 => fun _ _ _ r h => by simp [berthlaw02_QuantSums.l0] at h
  | k + 1 => by
    have ih0 := berthlaw02_QuantSums.mono_l k
    · intro y0 y1 y2
      unfold berthlaw02_QuantSums.l0
      repeat' first
      | (with_reducible exact ih0 _ _ _)
      | (with_reducible exact berthlaw02_fixedSum.mono _)
      | (with_reducible exact berthlaw02_sums.mono _ _ _ _ _ _)
      | (with_reducible exact LeO.refl _)
      | (with_reducible exact LeO.none _)
      | (with_reducible refine LeO.ite ?_ ?_)
      | (with_reducible refine LeO.bind ?_ (fun _ => ?_))
      | exact ih0 _ _ _
      | exact berthlaw02_fixedSum.mono _
      | exact berthlaw02_sums.mono _ _ _ _ _ _
      | exact LeO.none _
      | refine LeO.ite ?_ ?_
      | refine LeO.bind ?_ (fun _ => ?_)
theorem berthlaw02_QuantSums.mono : ∀ a0 k, LeO (berthlaw02_QuantSums.f k a0) (berthlaw02_QuantSums.f (k + 1) a0) := by
  intro a0 k
  have ih0 := berthlaw02_QuantSums.mono_l k
  unfold berthlaw02_QuantSums.f
  repeat' first
      | (with_reducible exact ih0 _ _ _)
      | (with_reducible exact berthlaw02_fixedSum.mono _)
      | (with_reducible exact berthlaw02_sums.mono _ _ _ _ _ _)
      | (with_reducible exact LeO.refl _)
      | (with_reducible exact LeO.none _)
      | (with_reducible refine LeO.ite ?_ ?_)
      | (with_reducible refine LeO.bind ?_ (fun _ => ?_))
      | exact ih0 _ _ _
      | exact berthlaw02_fixedSum.mono _
      | exact berthlaw02_sums.mono _ _ _ _ _ _
      | exact LeO.none _
      | refine LeO.ite ?_ ?_
      | refine LeO.bind ?_ (fun _ => ?_)
set_option maxHeartbeats 8000000 in
set_option maxRecDepth 100000 in
theorem berthlaw02_QuantSums.calls (k : Nat) (A0 : Option Addr) (c0 : Nat) (l0 : List (S51)) (r : Bool) (w : World) (hr0 : Kd.C k51 w A0 l0.length l0) (hc0 : l0.length ≤ c0) (h : berthlaw02_QuantSums.f k l0 = some r) :
 Calls Try.prog 8 #[.slice A0 l0.length c0] w fun e w' => e = .returned (.bool r) ∧ Below w.heap.size w w' := by
 have hu51 := Try.underlying51
 have HR0 := Aside0.mk hr0
 have HC0 := Aside0.mk hc0
 clear hr0 hc0
 have HB := Aside0.mk (Below.refl w.heap.size w)
 have H : ((berthlaw02_fixedSum.f k).bind fun t480 => (if t480 = true then (berthlaw02_QuantSums.l0 k l0 (l0.length : Int) 0) else (some false))) = some r := h
 clear h
 replace H := Option.bind_eq_some_iff.mp H
 obtain ⟨t480, A20, H⟩ := H
 replace H : (if t480 = true then (berthlaw02_QuantSums.l0 k l0 (l0.length : Int) 0) else (some false)) = some r := H
 have A2 := Aside0.mk A20
 clear A20
 by_cases c3 : t480 = true
 ·
  subst c3
  have H1 : (berthlaw02_QuantSums.l0 k l0 (l0.length : Int) 0) = some r := by rw [if_pos rfl] at H; exact H
  clear H
  have H := H1
  clear H1
  have H' := Aside0.mk H
  clear H
  go_enter Try.func8, Try.ntmps8
  go_wp2_with (first | ((with_reducible refine gate_callee (f := 19) rfl ?_); refine goesL_ (some 5) rfl rfl Try.func19 (by kernel_rfl) rfl #[] rfl (by (try simp only [List.map_toArray, List.map_cons, List.map_nil]); first | done | rfl | (simp only [List.length_drop, List.length_take]; rfl)) ?_; (with_reducible refine (berthlaw02_fixedSum.calls k  true _ A2.out).mono ?_); rintro e w4 ⟨rfl, hb⟩; refine ⟨_, rfl, ?_⟩; have n0_ := Aside0.mk (below_step (by repeat (first | (with_reducible first | exact HB.out | apply below_alloc | apply pw_below_drewN | apply below_drew1) | exact HB.out)) hb); clear HB; have HB := n0_; clear n0_; (try clear hb); (try clear hb2); (try clear hk); (try clear hi)))
  go_loopg [9] k (fun kq v9 w' => ∃ (x9_1 : Int), v9 = .int .i64 x9_1 ∧ Aside0 (berthlaw02_QuantSums.l0 kq l0 (l0.length : Int) x9_1 = some r) ∧ Aside0 (kq ≤ k) ∧ Aside0 (Below w.heap.size w w'))
  case atStart => exact ⟨(0), (by first | rfl | (simp; done) | (simp [*]; done) | (simp only [i64_w]; done) | (simp [i64_w, Int.tdiv_eq_ediv_of_nonneg]; done)), H', ⟨Nat.le_refl _⟩, ⟨by repeat (first | (with_reducible first | exact HB.out | apply below_alloc | apply pw_below_drewN | apply below_drew1) | exact HB.out)⟩⟩
  case round =>
   clear H'
   try clear c1
   try clear p2
   try clear c3
   obtain ⟨x9_1, rfl, HA, HK1, HB⟩ := hrel
   cases gk with
   | zero => exact absurd HA.out (by simp [berthlaw02_QuantSums.l0])
   | succ k1 =>
    have H := HA.out
    clear HA
    simp only [berthlaw02_QuantSums.l0] at H
    by_cases c5 : x9_1 < (l0.length : Int)
    ·
     rw [if_pos c5] at H
     have c5b0 : decide (x9_1 < (l0.length : Int)) = true := decide_eq_true c5
     clear c5
     by_cases c6 : 0 ≤ x9_1
     ·
      rw [if_pos c6] at H
      have c6b0 : decide (0 ≤ x9_1) = true := decide_eq_true c6
      clear c6
      by_cases c7 : x9_1 < (l0.length : Int)
      ·
       rw [if_pos c7] at H
       have c7b0 : decide (x9_1 < (l0.length : Int)) = true := decide_eq_true c7
       clear c7
       replace H := Option.bind_eq_some_iff.mp H
       obtain ⟨t483, A80, H⟩ := H
       replace H : (if t483 = true then (berthlaw02_QuantSums.l0 k1 l0 (l0.length : Int) (wrap64 (x9_1 + 1))) else (some false)) = some r := H
       have A8 := Aside0.mk A80
       clear A80
       by_cases c9 : t483 = true
       ·
        subst c9
        have H1 : (berthlaw02_QuantSums.l0 k1 l0 (l0.length : Int) (wrap64 (x9_1 + 1))) = some r := by rw [if_pos rfl] at H; exact H
        clear H
        have H := H1
        clear H1
        have H' := Aside0.mk H
        clear H
        have p481 : 0 ≤ (x9_1 : Int) := of_decide_eq_true (by first | (with_reducible assumption) | assumption)
        have q481 : x9_1 < (l0.length : Int) := of_decide_eq_true (by first | (with_reducible assumption) | assumption)
        obtain ⟨ad481, A481_2, c481_2, A481_3, c481_3, A481_4, c481_4, e481, hx481_0, hx481_1, hx481_2, hx481_3, hx481_4, hl481_2, hi481_2, hl481_3, hi481_3, hl481_4, hi481_4⟩ := at_T51 HR0.out x9_1 p481 q481
        cases e481
        replace hx481_0 := (HB.out.cell (World.block_lt_of_cell? w _ hx481_0)).trans hx481_0
        replace hx481_1 := (HB.out.cell (World.block_lt_of_cell? w _ hx481_1)).trans hx481_1
        replace hx481_2 := (HB.out.cell (World.block_lt_of_cell? w _ hx481_2)).trans hx481_2
        replace hx481_3 := (HB.out.cell (World.block_lt_of_cell? w _ hx481_3)).trans hx481_3
        replace hx481_4 := (HB.out.cell (World.block_lt_of_cell? w _ hx481_4)).trans hx481_4
        have HR481_2 := Aside0.mk hi481_2
        have HC481_2 := Aside0.mk hl481_2
        clear hi481_2 hl481_2
        have HR481_3 := Aside0.mk hi481_3
        have HC481_3 := Aside0.mk hl481_3
        clear hi481_3 hl481_3
        have HR481_4 := Aside0.mk hi481_4
        have HC481_4 := Aside0.mk hl481_4
        clear hi481_4 hl481_4
        replace p481 := eq_true p481
        replace q481 := eq_true q481
        go_wp2_with (first | ((with_reducible refine gate_dst (N := 4) rfl ?_); refine box_event ?hg (N := 4) ?hd (cs := #[.int .i64 0, .string (⟨#[]⟩ : ByteArray), .slice none 0 0, .slice none 0 0, .slice none 0 0]) (t := 51) ?hr ?_; (case hd => rfl); (case hg => rfl); (case hr => first | (go_simp; done) | (go_simp; rfl)); intro gb482 hg w10 hbox hb; have n0_ := Aside0.mk (below_step (by repeat (first | (with_reducible first | exact HB.out | apply below_alloc | apply pw_below_drewN | apply below_drew1) | exact HB.out)) hb); have n1_ := Aside0.mk (hbox); have n2_ := Aside0.mk ((by rw [hg]; exact (below_size (by repeat (first | (with_reducible first | exact HB.out | apply below_alloc | apply pw_below_drewN | apply below_drew1) | exact HB.out))) : w.heap.size ≤ gb482)); have n3_ := Aside0.mk ((by rw [hg]; exact (below_size (by repeat (first | (with_reducible first | exact HB.out | apply below_alloc | apply pw_below_drewN | apply below_drew1) | exact HB.out))) : w.heap.size ≤ gb482)); clear HB; have HB := n0_; have BK482 := n1_; have GW482 := n2_; have GE482 := n3_; clear n0_ n1_ n2_ n3_; clear hb hbox hg; have hcz11_0 : w10.cell? ⟨gb482, 0, none⟩ = some (.int .i64 0) := (blk_cell BK482.out 0).trans rfl; have hcz11_1 : w10.cell? ⟨gb482, 1, none⟩ = some (.string (⟨#[]⟩ : ByteArray)) := (blk_cell BK482.out 1).trans rfl; have hcz11_2 : w10.cell? ⟨gb482, 2, none⟩ = some (.slice none 0 0) := (blk_cell BK482.out 2).trans rfl; have hcz11_3 : w10.cell? ⟨gb482, 3, none⟩ = some (.slice none 0 0) := (blk_cell BK482.out 3).trans rfl; have hcz11_4 : w10.cell? ⟨gb482, 4, none⟩ = some (.slice none 0 0) := (blk_cell BK482.out 4).trans rfl; have hfz11_0 := blk_frozen BK482.out 0; have hfz11_1 := blk_frozen BK482.out 1; have hfz11_2 := blk_frozen BK482.out 2; have hfz11_3 := blk_frozen BK482.out 3; have hfz11_4 := blk_frozen BK482.out 4) | ((with_reducible refine gate_callee (f := 23) rfl ?_); refine goesL_ (some 14) rfl rfl Try.func23 (by kernel_rfl) rfl #[.agg #[.int .i64 ((rd_T51 l0 x9_1).f0), .string ((rd_T51 l0 x9_1).f1), .slice A481_2 ((rd_T51 l0 x9_1).f2).length c481_2, .slice A481_3 ((rd_T51 l0 x9_1).f3).length c481_3, .slice A481_4 ((rd_T51 l0 x9_1).f4).length c481_4]] rfl (by (try simp only [List.map_toArray, List.map_cons, List.map_nil]); first | done | rfl | (simp only [List.length_drop, List.length_take]; rfl)) ?_; (with_reducible refine (berthlaw02_sums.calls k1 ((rd_T51 l0 x9_1).f0) ((rd_T51 l0 x9_1).f1) _ _ ((rd_T51 l0 x9_1).f2) _ _ ((rd_T51 l0 x9_1).f3) _ _ ((rd_T51 l0 x9_1).f4) true _ ?side1 ?side2 ?side3 ?side4 ?side5 ?side6 A8.out).mono ?_); (case side1 => exact Kd.C_below HR481_2.out (by repeat (first | (with_reducible first | exact HB.out | apply below_alloc | apply pw_below_drewN | apply below_drew1 | refine below_set ?_ GE482.out) | exact HB.out))); (case side2 => exact HC481_2.out); (case side3 => exact Kd.C_below HR481_3.out (by repeat (first | (with_reducible first | exact HB.out | apply below_alloc | apply pw_below_drewN | apply below_drew1 | refine below_set ?_ GE482.out) | exact HB.out))); (case side4 => exact HC481_3.out); (case side5 => exact Kd.C_below HR481_4.out (by repeat (first | (with_reducible first | exact HB.out | apply below_alloc | apply pw_below_drewN | apply below_drew1 | refine below_set ?_ GE482.out) | exact HB.out))); (case side6 => exact HC481_4.out); rintro e w12 ⟨rfl, hb⟩; refine ⟨_, rfl, ?_⟩; have n0_ := Aside0.mk (blk_below (g := gb482) (o := .cells #[.int .i64 ((rd_T51 l0 x9_1).f0), .string ((rd_T51 l0 x9_1).f1), .slice A481_2 ((rd_T51 l0 x9_1).f2).length c481_2, .slice A481_3 ((rd_T51 l0 x9_1).f3).length c481_3, .slice A481_4 ((rd_T51 l0 x9_1).f4).length c481_4] 51 (0, 0)) (by (with_reducible repeat (first | refine blk_drewN ?_ _ | refine blk_drew ?_ | refine blk_alloc ?_ _)); refine blk_put (cs := #[.int .i64 ((rd_T51 l0 x9_1).f0), .string ((rd_T51 l0 x9_1).f1), .slice A481_2 ((rd_T51 l0 x9_1).f2).length c481_2, .slice A481_3 ((rd_T51 l0 x9_1).f3).length c481_3, .slice none 0 0]) ?_ 4 _ rfl; (with_reducible repeat (first | refine blk_drewN ?_ _ | refine blk_drew ?_ | refine blk_alloc ?_ _)); refine blk_put (cs := #[.int .i64 ((rd_T51 l0 x9_1).f0), .string ((rd_T51 l0 x9_1).f1), .slice A481_2 ((rd_T51 l0 x9_1).f2).length c481_2, .slice none 0 0, .slice none 0 0]) ?_ 3 _ rfl; (with_reducible repeat (first | refine blk_drewN ?_ _ | refine blk_drew ?_ | refine blk_alloc ?_ _)); refine blk_put (cs := #[.int .i64 ((rd_T51 l0 x9_1).f0), .string ((rd_T51 l0 x9_1).f1), .slice none 0 0, .slice none 0 0, .slice none 0 0]) ?_ 2 _ rfl; (with_reducible repeat (first | refine blk_drewN ?_ _ | refine blk_drew ?_ | refine blk_alloc ?_ _)); refine blk_put (cs := #[.int .i64 ((rd_T51 l0 x9_1).f0), .string (⟨#[]⟩ : ByteArray), .slice none 0 0, .slice none 0 0, .slice none 0 0]) ?_ 1 _ rfl; (with_reducible repeat (first | refine blk_drewN ?_ _ | refine blk_drew ?_ | refine blk_alloc ?_ _)); refine blk_put (cs := #[.int .i64 0, .string (⟨#[]⟩ : ByteArray), .slice none 0 0, .slice none 0 0, .slice none 0 0]) ?_ 0 _ rfl; (with_reducible repeat (first | refine blk_drewN ?_ _ | refine blk_drew ?_ | refine blk_alloc ?_ _)); exact BK482.out) hb); have n1_ := Aside0.mk (below_step (by repeat (first | (with_reducible first | exact HB.out | apply below_alloc | apply pw_below_drewN | apply below_drew1 | refine below_set ?_ GE482.out) | exact HB.out)) hb); clear BK482; clear HB; have BK482 := n0_; have HB := n1_; clear n0_ n1_; (try clear hb); (try clear hb2); (try clear hk); (try clear hi)))
        go_roundg k1
        case measure => have := HK1.out; omega
        case rel => exact ⟨(wrap64 (x9_1 + 1)), (by first | rfl | (simp; done) | (simp [*]; done) | (simp only [i64_w]; done) | (simp [i64_w, Int.tdiv_eq_ediv_of_nonneg]; done)), H', ⟨by have := HK1.out; omega⟩, ⟨by repeat (first | (with_reducible first | exact HB.out | apply below_alloc | apply pw_below_drewN | apply below_drew1 | refine below_set ?_ GE482.out) | exact HB.out)⟩⟩
       ·
        replace c9 := Bool.eq_false_iff.mpr c9
        subst c9
        have H1 : (some false) = some r := by rw [if_neg (show ¬ (false = true) by decide)] at H; exact H
        clear H
        have H := H1
        clear H1
        obtain rfl := Option.some.inj H
        have p481 : 0 ≤ (x9_1 : Int) := of_decide_eq_true (by first | (with_reducible assumption) | assumption)
        have q481 : x9_1 < (l0.length : Int) := of_decide_eq_true (by first | (with_reducible assumption) | assumption)
        obtain ⟨ad481, A481_2, c481_2, A481_3, c481_3, A481_4, c481_4, e481, hx481_0, hx481_1, hx481_2, hx481_3, hx481_4, hl481_2, hi481_2, hl481_3, hi481_3, hl481_4, hi481_4⟩ := at_T51 HR0.out x9_1 p481 q481
        cases e481
        replace hx481_0 := (HB.out.cell (World.block_lt_of_cell? w _ hx481_0)).trans hx481_0
        replace hx481_1 := (HB.out.cell (World.block_lt_of_cell? w _ hx481_1)).trans hx481_1
        replace hx481_2 := (HB.out.cell (World.block_lt_of_cell? w _ hx481_2)).trans hx481_2
        replace hx481_3 := (HB.out.cell (World.block_lt_of_cell? w _ hx481_3)).trans hx481_3
        replace hx481_4 := (HB.out.cell (World.block_lt_of_cell? w _ hx481_4)).trans hx481_4
        have HR481_2 := Aside0.mk hi481_2
        have HC481_2 := Aside0.mk hl481_2
        clear hi481_2 hl481_2
        have HR481_3 := Aside0.mk hi481_3
        have HC481_3 := Aside0.mk hl481_3
        clear hi481_3 hl481_3
        have HR481_4 := Aside0.mk hi481_4
        have HC481_4 := Aside0.mk hl481_4
        clear hi481_4 hl481_4
        replace p481 := eq_true p481
        replace q481 := eq_true q481
        go_wp2_with (first | ((with_reducible refine gate_dst (N := 4) rfl ?_); refine box_event ?hg (N := 4) ?hd (cs := #[.int .i64 0, .string (⟨#[]⟩ : ByteArray), .slice none 0 0, .slice none 0 0, .slice none 0 0]) (t := 51) ?hr ?_; (case hd => rfl); (case hg => rfl); (case hr => first | (go_simp; done) | (go_simp; rfl)); intro gb482 hg w13 hbox hb; have n0_ := Aside0.mk (below_step (by repeat (first | (with_reducible first | exact HB.out | apply below_alloc | apply pw_below_drewN | apply below_drew1) | exact HB.out)) hb); have n1_ := Aside0.mk (hbox); have n2_ := Aside0.mk ((by rw [hg]; exact (below_size (by repeat (first | (with_reducible first | exact HB.out | apply below_alloc | apply pw_below_drewN | apply below_drew1) | exact HB.out))) : w.heap.size ≤ gb482)); have n3_ := Aside0.mk ((by rw [hg]; exact (below_size (by repeat (first | (with_reducible first | exact HB.out | apply below_alloc | apply pw_below_drewN | apply below_drew1) | exact HB.out))) : w.heap.size ≤ gb482)); clear HB; have HB := n0_; have BK482 := n1_; have GW482 := n2_; have GE482 := n3_; clear n0_ n1_ n2_ n3_; clear hb hbox hg; have hcz14_0 : w13.cell? ⟨gb482, 0, none⟩ = some (.int .i64 0) := (blk_cell BK482.out 0).trans rfl; have hcz14_1 : w13.cell? ⟨gb482, 1, none⟩ = some (.string (⟨#[]⟩ : ByteArray)) := (blk_cell BK482.out 1).trans rfl; have hcz14_2 : w13.cell? ⟨gb482, 2, none⟩ = some (.slice none 0 0) := (blk_cell BK482.out 2).trans rfl; have hcz14_3 : w13.cell? ⟨gb482, 3, none⟩ = some (.slice none 0 0) := (blk_cell BK482.out 3).trans rfl; have hcz14_4 : w13.cell? ⟨gb482, 4, none⟩ = some (.slice none 0 0) := (blk_cell BK482.out 4).trans rfl; have hfz14_0 := blk_frozen BK482.out 0; have hfz14_1 := blk_frozen BK482.out 1; have hfz14_2 := blk_frozen BK482.out 2; have hfz14_3 := blk_frozen BK482.out 3; have hfz14_4 := blk_frozen BK482.out 4) | ((with_reducible refine gate_callee (f := 23) rfl ?_); refine goesL_ (some 14) rfl rfl Try.func23 (by kernel_rfl) rfl #[.agg #[.int .i64 ((rd_T51 l0 x9_1).f0), .string ((rd_T51 l0 x9_1).f1), .slice A481_2 ((rd_T51 l0 x9_1).f2).length c481_2, .slice A481_3 ((rd_T51 l0 x9_1).f3).length c481_3, .slice A481_4 ((rd_T51 l0 x9_1).f4).length c481_4]] rfl (by (try simp only [List.map_toArray, List.map_cons, List.map_nil]); first | done | rfl | (simp only [List.length_drop, List.length_take]; rfl)) ?_; (with_reducible refine (berthlaw02_sums.calls k1 ((rd_T51 l0 x9_1).f0) ((rd_T51 l0 x9_1).f1) _ _ ((rd_T51 l0 x9_1).f2) _ _ ((rd_T51 l0 x9_1).f3) _ _ ((rd_T51 l0 x9_1).f4) false _ ?side1 ?side2 ?side3 ?side4 ?side5 ?side6 A8.out).mono ?_); (case side1 => exact Kd.C_below HR481_2.out (by repeat (first | (with_reducible first | exact HB.out | apply below_alloc | apply pw_below_drewN | apply below_drew1 | refine below_set ?_ GE482.out) | exact HB.out))); (case side2 => exact HC481_2.out); (case side3 => exact Kd.C_below HR481_3.out (by repeat (first | (with_reducible first | exact HB.out | apply below_alloc | apply pw_below_drewN | apply below_drew1 | refine below_set ?_ GE482.out) | exact HB.out))); (case side4 => exact HC481_3.out); (case side5 => exact Kd.C_below HR481_4.out (by repeat (first | (with_reducible first | exact HB.out | apply below_alloc | apply pw_below_drewN | apply below_drew1 | refine below_set ?_ GE482.out) | exact HB.out))); (case side6 => exact HC481_4.out); rintro e w15 ⟨rfl, hb⟩; refine ⟨_, rfl, ?_⟩; have n0_ := Aside0.mk (blk_below (g := gb482) (o := .cells #[.int .i64 ((rd_T51 l0 x9_1).f0), .string ((rd_T51 l0 x9_1).f1), .slice A481_2 ((rd_T51 l0 x9_1).f2).length c481_2, .slice A481_3 ((rd_T51 l0 x9_1).f3).length c481_3, .slice A481_4 ((rd_T51 l0 x9_1).f4).length c481_4] 51 (0, 0)) (by (with_reducible repeat (first | refine blk_drewN ?_ _ | refine blk_drew ?_ | refine blk_alloc ?_ _)); refine blk_put (cs := #[.int .i64 ((rd_T51 l0 x9_1).f0), .string ((rd_T51 l0 x9_1).f1), .slice A481_2 ((rd_T51 l0 x9_1).f2).length c481_2, .slice A481_3 ((rd_T51 l0 x9_1).f3).length c481_3, .slice none 0 0]) ?_ 4 _ rfl; (with_reducible repeat (first | refine blk_drewN ?_ _ | refine blk_drew ?_ | refine blk_alloc ?_ _)); refine blk_put (cs := #[.int .i64 ((rd_T51 l0 x9_1).f0), .string ((rd_T51 l0 x9_1).f1), .slice A481_2 ((rd_T51 l0 x9_1).f2).length c481_2, .slice none 0 0, .slice none 0 0]) ?_ 3 _ rfl; (with_reducible repeat (first | refine blk_drewN ?_ _ | refine blk_drew ?_ | refine blk_alloc ?_ _)); refine blk_put (cs := #[.int .i64 ((rd_T51 l0 x9_1).f0), .string ((rd_T51 l0 x9_1).f1), .slice none 0 0, .slice none 0 0, .slice none 0 0]) ?_ 2 _ rfl; (with_reducible repeat (first | refine blk_drewN ?_ _ | refine blk_drew ?_ | refine blk_alloc ?_ _)); refine blk_put (cs := #[.int .i64 ((rd_T51 l0 x9_1).f0), .string (⟨#[]⟩ : ByteArray), .slice none 0 0, .slice none 0 0, .slice none 0 0]) ?_ 1 _ rfl; (with_reducible repeat (first | refine blk_drewN ?_ _ | refine blk_drew ?_ | refine blk_alloc ?_ _)); refine blk_put (cs := #[.int .i64 0, .string (⟨#[]⟩ : ByteArray), .slice none 0 0, .slice none 0 0, .slice none 0 0]) ?_ 0 _ rfl; (with_reducible repeat (first | refine blk_drewN ?_ _ | refine blk_drew ?_ | refine blk_alloc ?_ _)); exact BK482.out) hb); have n1_ := Aside0.mk (below_step (by repeat (first | (with_reducible first | exact HB.out | apply below_alloc | apply pw_below_drewN | apply below_drew1 | refine below_set ?_ GE482.out) | exact HB.out)) hb); clear BK482; clear HB; have BK482 := n0_; have HB := n1_; clear n0_ n1_; (try clear hb); (try clear hb2); (try clear hk); (try clear hi)))
        go_ret
        exact ⟨by first | rfl | (simp [errW_none, errW_some] <;> rfl) | (simp [*, errW_none, errW_some] <;> rfl), by repeat (first | (with_reducible first | exact HB.out | apply below_alloc | apply pw_below_drewN | apply below_drew1 | refine below_set ?_ GE482.out) | exact HB.out)⟩
      ·
       rw [if_neg c7] at H
       exact absurd H (by simp)
     ·
      rw [if_neg c6] at H
      exact absurd H (by simp)
    ·
     rw [if_neg c5] at H
     have c5b0 : decide (x9_1 < (l0.length : Int)) = false := decide_eq_false c5
     clear c5
     obtain rfl := Option.some.inj H
     go_wp2
     go_ret
     exact ⟨by first | rfl | (simp [errW_none, errW_some] <;> rfl) | (simp [*, errW_none, errW_some] <;> rfl), by repeat (first | (with_reducible first | exact HB.out | apply below_alloc | apply pw_below_drewN | apply below_drew1) | exact HB.out)⟩
 ·
  replace c3 := Bool.eq_false_iff.mpr c3
  subst c3
  have H1 : (some false) = some r := by rw [if_neg (show ¬ (false = true) by decide)] at H; exact H
  clear H
  have H := H1
  clear H1
  obtain rfl := Option.some.inj H
  go_enter Try.func8, Try.ntmps8
  go_wp2_with (first | ((with_reducible refine gate_callee (f := 19) rfl ?_); refine goesL_ (some 5) rfl rfl Try.func19 (by kernel_rfl) rfl #[] rfl (by (try simp only [List.map_toArray, List.map_cons, List.map_nil]); first | done | rfl | (simp only [List.length_drop, List.length_take]; rfl)) ?_; (with_reducible refine (berthlaw02_fixedSum.calls k  false _ A2.out).mono ?_); rintro e w16 ⟨rfl, hb⟩; refine ⟨_, rfl, ?_⟩; have n0_ := Aside0.mk (below_step (by repeat (first | (with_reducible first | exact HB.out | apply below_alloc | apply pw_below_drewN | apply below_drew1) | exact HB.out)) hb); clear HB; have HB := n0_; clear n0_; (try clear hb); (try clear hb2); (try clear hk); (try clear hi)))
  go_ret
  exact ⟨by first | rfl | (simp [errW_none, errW_some] <;> rfl) | (simp [*, errW_none, errW_some] <;> rfl), by repeat (first | (with_reducible first | exact HB.out | apply below_alloc | apply pw_below_drewN | apply below_drew1) | exact HB.out)⟩
end Go.Proofs.Ytbibnendaddbhaa.All
