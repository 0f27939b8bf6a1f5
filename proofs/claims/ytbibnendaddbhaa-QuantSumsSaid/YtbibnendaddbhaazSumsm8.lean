/- A part of the proof of QuantSums: walks written by a program of this session. -/
import Derived.Test.YtbibnendaddbhaazSumsm0
import Derived.Test.YtbibnendaddbhaazSumsm7
namespace Go.Proofs.Ytbibnendaddbhaa.All
open Go.RowKit Go.Proofs.YtbibnendaddbhaaW.PrintWords Go.Proofs.YtbibnendaddbhaaW.PrintLast Go.Proofs.YtbibnendaddbhaaW.PrintMore
attribute [local go_sem] max2_int min2_int max_two min_two max_three min_three max_four min_four
attribute [local go_sem] Go.Proofs.YtbibnendaddbhaaX.binOp_leq Go.Proofs.YtbibnendaddbhaaX.binOp_geq Go.Proofs.YtbibnendaddbhaaX.binOp_gtr
set_option linter.unusedVariables false
set_option linter.unusedSimpArgs false
mutual
def berthref02_Rising.l0 : Nat → List (S28) → List (S28) → ByteArray → Int → Int → Option ((List (S28)))
  | 0, _, _, _, _, _ => none
  | k + 1, x0, x3, x4, x9, x10 => if x10 < x9 then (berthref02_Rising.l1 k x0 x3 x4 (-1) 0 x9 x10) else (some x3)
def berthref02_Rising.l1 : Nat → List (S28) → List (S28) → ByteArray → Int → Int → Int → Int → Option ((List (S28)))
  | 0, _, _, _, _, _, _, _ => none
  | k + 1, x0, x3, x4, x5, x6, x9, x10 => if x6 < (x0.length : Int) then (if 0 ≤ x6 then (if (Op.bytesLess x4.toList (((rd_T28 x0 x6).f0).toList)) = true then (if x5 < 0 then (berthref02_Rising.l1 k x0 x3 x4 x6 (wrap64 (x6 + 1)) x9 x10) else (if 0 ≤ x5 then (if x5 < (x0.length : Int) then (if (Op.bytesLess (((rd_T28 x0 x6).f0).toList) (((rd_T28 x0 x5).f0).toList)) = true then (berthref02_Rising.l1 k x0 x3 x4 x6 (wrap64 (x6 + 1)) x9 x10) else (berthref02_Rising.l1 k x0 x3 x4 x5 (wrap64 (x6 + 1)) x9 x10)) else (none)) else (none))) else (berthref02_Rising.l1 k x0 x3 x4 x5 (wrap64 (x6 + 1)) x9 x10)) else (none)) else (if x5 < 0 then (some x3) else (if 0 ≤ x5 then (if x5 < (x0.length : Int) then (if ((rd_T28 x0 x5).f1) = 0 then (berthref02_Rising.l0 k x0 x3 ((rd_T28 x0 x5).f0) x9 (wrap64 (x10 + 1))) else (if x3.length < 5864062014805 then (berthref02_Rising.l0 k x0 (x3 ++ [(⟨(rd_T28 x0 x5).f0, (rd_T28 x0 x5).f1⟩ : S28)]) ((rd_T28 x0 x5).f0) x9 (wrap64 (x10 + 1))) else (none))) else (none)) else (none)))
end
def berthref02_Rising.f (k : Nat) (l0 : List (S28)) : Option ((List (S28))) := berthref02_Rising.l0 k l0 (([] : List (S28))) (⟨#[]⟩ : ByteArray) (l0.length : Int) 0
theorem berthref02_Rising.mono_l : ∀ k, (∀ y0 y1 y2 y3 y4, LeO (berthref02_Rising.l0 k y0 y1 y2 y3 y4) (berthref02_Rising.l0 (k + 1) y0 y1 y2 y3 y4)) ∧ (∀ y0 y1 y2 y3 y4 y5 y6, LeO (berthref02_Rising.l1 k y0 y1 y2 y3 y4 y5 y6) (berthref02_Rising.l1 (k + 1) y0 y1 y2 y3 y4 y5 y6))
  | 0 => ⟨fun _ _ _ _ _ r h => by simp [berthref02_Rising.l0] at h, fun _ _ _ _ _ _ _ r h => by simp [berthref02_Rising.l1] at h⟩
  | k + 1 => by
    obtain ⟨ih0, ih1⟩ := berthref02_Rising.mono_l k
    refine ⟨?_, ?_⟩
    · intro y0 y1 y2 y3 y4
      unfold berthref02_Rising.l0
      repeat' first
      | (with_reducible exact ih0 _ _ _ _ _)
      | (with_reducible exact ih1 _ _ _ _ _ _ _)
      | (with_reducible exact LeO.refl _)
      | (with_reducible exact LeO.none _)
      | (with_reducible refine LeO.ite ?_ ?_)
      | (with_reducible refine LeO.bind ?_ (fun _ => ?_))
      | exact ih0 _ _ _ _ _
      | exact ih1 _ _ _ _ _ _ _
      | exact LeO.none _
      | refine LeO.ite ?_ ?_
      | refine LeO.bind ?_ (fun _ => ?_)
    · intro y0 y1 y2 y3 y4 y5 y6
      unfold berthref02_Rising.l1
      repeat' first
      | (with_reducible exact ih0 _ _ _ _ _)
      | (with_reducible exact ih1 _ _ _ _ _ _ _)
      | (with_reducible exact LeO.refl _)
      | (with_reducible exact LeO.none _)
      | (with_reducible refine LeO.ite ?_ ?_)
      | (with_reducible refine LeO.bind ?_ (fun _ => ?_))
      | exact ih0 _ _ _ _ _
      | exact ih1 _ _ _ _ _ _ _
      | exact LeO.none _
      | refine LeO.ite ?_ ?_
      | refine LeO.bind ?_ (fun _ => ?_)
theorem berthref02_Rising.mono : ∀ a0 k, LeO (berthref02_Rising.f k a0) (berthref02_Rising.f (k + 1) a0) := by
  intro a0 k
  obtain ⟨ih0, ih1⟩ := berthref02_Rising.mono_l k
  unfold berthref02_Rising.f
  repeat' first
      | (with_reducible exact ih0 _ _ _ _ _)
      | (with_reducible exact ih1 _ _ _ _ _ _ _)
      | (with_reducible exact LeO.refl _)
      | (with_reducible exact LeO.none _)
      | (with_reducible refine LeO.ite ?_ ?_)
      | (with_reducible refine LeO.bind ?_ (fun _ => ?_))
      | exact ih0 _ _ _ _ _
      | exact ih1 _ _ _ _ _ _ _
      | exact LeO.none _
      | refine LeO.ite ?_ ?_
      | refine LeO.bind ?_ (fun _ => ?_)
set_option maxHeartbeats 8000000 in
set_option maxRecDepth 100000 in
theorem berthref02_Rising.calls (k : Nat) (A0 : Option Addr) (c0 : Nat) (l0 : List (S28)) (r : List (S28)) (w : World) (hr0 : Kd.C k28 w A0 l0.length l0) (hc0 : l0.length ≤ c0) (h : berthref02_Rising.f k l0 = some r) :
 Calls Try.prog 36 #[.slice A0 l0.length c0] w fun e w' => ∃ v0_ : Value, e = .returned (v0_) ∧ Kd.R k28 28 w' w.heap.size (fun _ => True) v0_ r ∧ Below w.heap.size w w' := by
 have hu28 := Try.underlying28
 have HR0 := Aside0.mk hr0
 have HC0 := Aside0.mk hc0
 clear hr0 hc0
 have HB := Aside0.mk (Below.refl w.heap.size w)
 have H : (berthref02_Rising.l0 k l0 (([] : List (S28))) (⟨#[]⟩ : ByteArray) (l0.length : Int) 0) = some r := h
 clear h
 obtain ⟨y357, hy357⟩ : ∃ y_ : List (S28), y_ = (([] : List (S28))) := ⟨_, rfl⟩
 replace H : (berthref02_Rising.l0 k l0 y357 (⟨#[]⟩ : ByteArray) (l0.length : Int) 0) = some r := by first | (rw [hy357]; with_reducible exact H) | (have H2_ := (Option.bind_some _ _).symm.trans H; rw [hy357]; with_reducible exact H2_) | (have H2_ := (Option.bind_some _ _).symm.trans H; with_reducible exact H2_) | with_reducible exact H | (rw [hy357]; exact H) | exact H
 have Ny357 := Aside0.mk hy357
 clear hy357
 have H' := Aside0.mk H
 clear H
 go_enter Try.func36, Try.ntmps36
 go_wp2_with (first | ((with_reducible refine gate_dst (N := 7) rfl ?_); refine Kd.R_lit k28 _ 28 ?hg (N := 7) ?hd (xs := ([] : List (S28))) (inner := []) (ok := fun _ => True) (okp := fun _ => True) ?hr ?hp (fun _ hk => hk) trivial (Below.refl _ _) (Nat.le_refl _) (by simp) ?_; (case hd => rfl); (case hg => rfl); (case hr => first | (go_simp; done) | (go_simp; rfl)); (case hp => exact (Reps.none _ _)); intro v358 w2 ho3 hb hg_ hnew_; clear hg_ hnew_; (first | rw [← Ny357.out] at ho3 | (simp only [Int.reduceToNat] at ho3; rw [← Ny357.out] at ho3)); have n0_ := Aside0.mk (Kd.R_lower ho3 (below_size (by repeat (first | (with_reducible first | exact HB.out | apply below_alloc | apply pw_below_drewN | apply below_drew1) | exact HB.out)))); have n1_ := Aside0.mk (below_step (by repeat (first | (with_reducible first | exact HB.out | apply below_alloc | apply pw_below_drewN | apply below_drew1) | exact HB.out)) hb); clear HB; have HO359 := n0_; have HB := n1_; clear n0_ n1_; clear hb ho3))
 repeat (go_quiet (first | ((with_reducible refine gate_dst (N := 7) rfl ?_); refine Kd.R_lit k28 _ 28 ?hg (N := 7) ?hd (xs := ([] : List (S28))) (inner := []) (ok := fun _ => True) (okp := fun _ => True) ?hr ?hp (fun _ hk => hk) trivial (Below.refl _ _) (Nat.le_refl _) (by simp) ?_; (case hd => rfl); (case hg => rfl); (case hr => first | (go_simp; done) | (go_simp; rfl)); (case hp => exact (Reps.none _ _)); intro v358 w2 ho3 hb hg_ hnew_; clear hg_ hnew_; (first | rw [← Ny357.out] at ho3 | (simp only [Int.reduceToNat] at ho3; rw [← Ny357.out] at ho3)); have n0_ := Aside0.mk (Kd.R_lower ho3 (below_size (by repeat (first | (with_reducible first | exact HB.out | apply below_alloc | apply pw_below_drewN | apply below_drew1) | exact HB.out)))); have n1_ := Aside0.mk (below_step (by repeat (first | (with_reducible first | exact HB.out | apply below_alloc | apply pw_below_drewN | apply below_drew1) | exact HB.out)) hb); clear HB; have HO359 := n0_; have HB := n1_; clear n0_ n1_; clear hb ho3)); try go_wp2_with (first | ((with_reducible refine gate_dst (N := 7) rfl ?_); refine Kd.R_lit k28 _ 28 ?hg (N := 7) ?hd (xs := ([] : List (S28))) (inner := []) (ok := fun _ => True) (okp := fun _ => True) ?hr ?hp (fun _ hk => hk) trivial (Below.refl _ _) (Nat.le_refl _) (by simp) ?_; (case hd => rfl); (case hg => rfl); (case hr => first | (go_simp; done) | (go_simp; rfl)); (case hp => exact (Reps.none _ _)); intro v358 w2 ho3 hb hg_ hnew_; clear hg_ hnew_; (first | rw [← Ny357.out] at ho3 | (simp only [Int.reduceToNat] at ho3; rw [← Ny357.out] at ho3)); have n0_ := Aside0.mk (Kd.R_lower ho3 (below_size (by repeat (first | (with_reducible first | exact HB.out | apply below_alloc | apply pw_below_drewN | apply below_drew1) | exact HB.out)))); have n1_ := Aside0.mk (below_step (by repeat (first | (with_reducible first | exact HB.out | apply below_alloc | apply pw_below_drewN | apply below_drew1) | exact HB.out)) hb); clear HB; have HO359 := n0_; have HB := n1_; clear n0_ n1_; clear hb ho3)))
 go_loopg [3, 4, 10] k (fun kq v3 v4 v10 w' => ∃ (x3_1 : List (S28)) (x4_1 : ByteArray) (x10_1 : Int), v4 = .string x4_1 ∧ v10 = .int .i64 x10_1 ∧ Aside0 (berthref02_Rising.l0 kq l0 x3_1 x4_1 (l0.length : Int) x10_1 = some r) ∧ Aside0 (kq ≤ k) ∧ Aside0 (Kd.R k28 28 w' w.heap.size (fun _ => True) v3 x3_1) ∧ Aside0 (Below w.heap.size w w'))
 case atStart => exact ⟨(y357), ((⟨#[]⟩ : ByteArray)), (0), (by first | rfl | (simp; done) | (simp [*]; done) | (simp only [i64_w]; done) | (simp [i64_w, Int.tdiv_eq_ediv_of_nonneg]; done)), (by first | rfl | (simp; done) | (simp [*]; done) | (simp only [i64_w]; done) | (simp [i64_w, Int.tdiv_eq_ediv_of_nonneg]; done)), H', ⟨Nat.le_refl _⟩, ⟨by (with_reducible repeat (first | apply Kd.R_alloc | apply Kd.R_drewN | apply Kd.R_drew)); exact HO359.out⟩, ⟨by repeat (first | (with_reducible first | exact HB.out | apply below_alloc | apply pw_below_drewN | apply below_drew1) | exact HB.out)⟩⟩
 case round =>
  clear H'
  try clear p2
  try clear c3
  obtain ⟨x3_1, x4_1, x10_1, rfl, rfl, HA, HK1, HO_3, HB⟩ := hrel
  cases gk with
  | zero => exact absurd HA.out (by simp [berthref02_Rising.l0])
  | succ k1 =>
   have H := HA.out
   clear HA
   simp only [berthref02_Rising.l0] at H
   by_cases c4 : x10_1 < (l0.length : Int)
   ·
    rw [if_pos c4] at H
    have c4b0 : decide (x10_1 < (l0.length : Int)) = true := decide_eq_true c4
    clear c4
    have H' := Aside0.mk H
    clear H
    go_wp2
    repeat (go_quiet (fail); try go_wp2)
    go_loopg [5, 6] k1 (fun kq v5 v6 w' => ∃ (x5_2 : Int) (x6_2 : Int), v5 = .int .i64 x5_2 ∧ v6 = .int .i64 x6_2 ∧ Aside0 (berthref02_Rising.l1 kq l0 x3_1 x4_1 x5_2 x6_2 (l0.length : Int) x10_1 = some r) ∧ Aside0 (kq ≤ k1) ∧ Aside0 (Kd.R k28 28 w' w.heap.size (fun _ => True) u3 x3_1) ∧ Aside0 (Below w.heap.size w w'))
    case atStart => exact ⟨((-1)), (0), (by first | rfl | (simp; done) | (simp [*]; done) | (simp only [i64_w]; done) | (simp [i64_w, Int.tdiv_eq_ediv_of_nonneg]; done)), (by first | rfl | (simp; done) | (simp [*]; done) | (simp only [i64_w]; done) | (simp [i64_w, Int.tdiv_eq_ediv_of_nonneg]; done)), H', ⟨Nat.le_refl _⟩, ⟨by (with_reducible repeat (first | apply Kd.R_alloc | apply Kd.R_drewN | apply Kd.R_drew)); exact HO_3.out⟩, ⟨by repeat (first | (with_reducible first | exact HB.out | apply below_alloc | apply pw_below_drewN | apply below_drew1) | exact HB.out)⟩⟩
    case round =>
     clear H'
     try clear p2
     try clear c3
     try clear c4
     try clear c4b0
     try clear p2
     obtain ⟨x5_2, x6_2, rfl, rfl, HA, HK2, HO_3, HB⟩ := hrel
     cases gk with
     | zero => exact absurd HA.out (by simp [berthref02_Rising.l1])
     | succ k2 =>
      have H := HA.out
      clear HA
      simp only [berthref02_Rising.l1] at H
      by_cases c5 : x6_2 < (l0.length : Int)
      ·
       rw [if_pos c5] at H
       have c5b0 : decide (x6_2 < (l0.length : Int)) = true := decide_eq_true c5
       clear c5
       by_cases c6 : 0 ≤ x6_2
       ·
        rw [if_pos c6] at H
        have c6b0 : decide (0 ≤ x6_2) = true := decide_eq_true c6
        clear c6
        by_cases c7 : (Op.bytesLess x4_1.toList (((rd_T28 l0 x6_2).f0).toList)) = true
        ·
         rw [if_pos c7] at H
         have c7b0 : (Op.bytesLess x4_1.toList (((rd_T28 l0 x6_2).f0).toList)) = true := c7
         clear c7
         by_cases c8 : x5_2 < 0
         ·
          rw [if_pos c8] at H
          have c8b0 : decide (x5_2 < 0) = true := decide_eq_true c8
          clear c8
          have H' := Aside0.mk H
          clear H
          have p360 : 0 ≤ (x6_2 : Int) := of_decide_eq_true (by first | (with_reducible assumption) | assumption)
          have q360 : x6_2 < (l0.length : Int) := of_decide_eq_true (by first | (with_reducible assumption) | assumption)
          obtain ⟨ad360, e360, hx360_0, hx360_1⟩ := at_T28 HR0.out x6_2 p360 q360
          cases e360
          replace hx360_0 := (HB.out.cell (World.block_lt_of_cell? w _ hx360_0)).trans hx360_0
          replace hx360_1 := (HB.out.cell (World.block_lt_of_cell? w _ hx360_1)).trans hx360_1
          replace p360 := eq_true p360
          replace q360 := eq_true q360
          go_wp2
          repeat (go_quiet (fail); try go_wp2)
          go_roundg k2
          case measure => have := HK1.out; have := HK2.out; omega
          case rel => exact ⟨(x6_2), (wrap64 (x6_2 + 1)), (by first | rfl | (simp; done) | (simp [*]; done) | (simp only [i64_w]; done) | (simp [i64_w, Int.tdiv_eq_ediv_of_nonneg]; done)), (by first | rfl | (simp; done) | (simp [*]; done) | (simp only [i64_w]; done) | (simp [i64_w, Int.tdiv_eq_ediv_of_nonneg]; done)), H', ⟨by have := HK1.out; have := HK2.out; omega⟩, ⟨by (with_reducible repeat (first | apply Kd.R_alloc | apply Kd.R_drewN | apply Kd.R_drew)); exact HO_3.out⟩, ⟨by repeat (first | (with_reducible first | exact HB.out | apply below_alloc | apply pw_below_drewN | apply below_drew1) | exact HB.out)⟩⟩
         ·
          rw [if_neg c8] at H
          have c8b0 : decide (x5_2 < 0) = false := decide_eq_false c8
          clear c8
          by_cases c9 : 0 ≤ x5_2
          ·
           rw [if_pos c9] at H
           have c9b0 : decide (0 ≤ x5_2) = true := decide_eq_true c9
           clear c9
           by_cases c10 : x5_2 < (l0.length : Int)
           ·
            rw [if_pos c10] at H
            have c10b0 : decide (x5_2 < (l0.length : Int)) = true := decide_eq_true c10
            clear c10
            by_cases c11 : (Op.bytesLess (((rd_T28 l0 x6_2).f0).toList) (((rd_T28 l0 x5_2).f0).toList)) = true
            ·
             rw [if_pos c11] at H
             have c11b0 : (Op.bytesLess (((rd_T28 l0 x6_2).f0).toList) (((rd_T28 l0 x5_2).f0).toList)) = true := c11
             clear c11
             have H' := Aside0.mk H
             clear H
             have p360 : 0 ≤ (x6_2 : Int) := of_decide_eq_true (by first | (with_reducible assumption) | assumption)
             have q360 : x6_2 < (l0.length : Int) := of_decide_eq_true (by first | (with_reducible assumption) | assumption)
             obtain ⟨ad360, e360, hx360_0, hx360_1⟩ := at_T28 HR0.out x6_2 p360 q360
             cases e360
             replace hx360_0 := (HB.out.cell (World.block_lt_of_cell? w _ hx360_0)).trans hx360_0
             replace hx360_1 := (HB.out.cell (World.block_lt_of_cell? w _ hx360_1)).trans hx360_1
             replace p360 := eq_true p360
             replace q360 := eq_true q360
             have p361 : 0 ≤ (x6_2 : Int) := of_decide_eq_true (by first | (with_reducible assumption) | assumption)
             have q361 : x6_2 < (l0.length : Int) := of_decide_eq_true (by first | (with_reducible assumption) | assumption)
             obtain ⟨ad361, e361, hx361_0, hx361_1⟩ := at_T28 HR0.out x6_2 p361 q361
             obtain rfl : ad360 = ad361 := (by injection e361)
             replace hx361_0 := (HB.out.cell (World.block_lt_of_cell? w _ hx361_0)).trans hx361_0
             replace hx361_1 := (HB.out.cell (World.block_lt_of_cell? w _ hx361_1)).trans hx361_1
             replace p361 := eq_true p361
             replace q361 := eq_true q361
             have p362 : 0 ≤ (x5_2 : Int) := of_decide_eq_true (by first | (with_reducible assumption) | assumption)
             have q362 : x5_2 < (l0.length : Int) := of_decide_eq_true (by first | (with_reducible assumption) | assumption)
             obtain ⟨ad362, e362, hx362_0, hx362_1⟩ := at_T28 HR0.out x5_2 p362 q362
             obtain rfl : ad360 = ad362 := (by injection e362)
             replace hx362_0 := (HB.out.cell (World.block_lt_of_cell? w _ hx362_0)).trans hx362_0
             replace hx362_1 := (HB.out.cell (World.block_lt_of_cell? w _ hx362_1)).trans hx362_1
             replace p362 := eq_true p362
             replace q362 := eq_true q362
             go_wp2
             repeat (go_quiet (fail); try go_wp2)
             go_roundg k2
             case measure => have := HK1.out; have := HK2.out; omega
             case rel => exact ⟨(x6_2), (wrap64 (x6_2 + 1)), (by first | rfl | (simp; done) | (simp [*]; done) | (simp only [i64_w]; done) | (simp [i64_w, Int.tdiv_eq_ediv_of_nonneg]; done)), (by first | rfl | (simp; done) | (simp [*]; done) | (simp only [i64_w]; done) | (simp [i64_w, Int.tdiv_eq_ediv_of_nonneg]; done)), H', ⟨by have := HK1.out; have := HK2.out; omega⟩, ⟨by (with_reducible repeat (first | apply Kd.R_alloc | apply Kd.R_drewN | apply Kd.R_drew)); exact HO_3.out⟩, ⟨by repeat (first | (with_reducible first | exact HB.out | apply below_alloc | apply pw_below_drewN | apply below_drew1) | exact HB.out)⟩⟩
            ·
             rw [if_neg c11] at H
             have c11b0 : (Op.bytesLess (((rd_T28 l0 x6_2).f0).toList) (((rd_T28 l0 x5_2).f0).toList)) = false := by simpa using c11
             clear c11
             have H' := Aside0.mk H
             clear H
             have p360 : 0 ≤ (x6_2 : Int) := of_decide_eq_true (by first | (with_reducible assumption) | assumption)
             have q360 : x6_2 < (l0.length : Int) := of_decide_eq_true (by first | (with_reducible assumption) | assumption)
             obtain ⟨ad360, e360, hx360_0, hx360_1⟩ := at_T28 HR0.out x6_2 p360 q360
             cases e360
             replace hx360_0 := (HB.out.cell (World.block_lt_of_cell? w _ hx360_0)).trans hx360_0
             replace hx360_1 := (HB.out.cell (World.block_lt_of_cell? w _ hx360_1)).trans hx360_1
             replace p360 := eq_true p360
             replace q360 := eq_true q360
             have p361 : 0 ≤ (x6_2 : Int) := of_decide_eq_true (by first | (with_reducible assumption) | assumption)
             have q361 : x6_2 < (l0.length : Int) := of_decide_eq_true (by first | (with_reducible assumption) | assumption)
             obtain ⟨ad361, e361, hx361_0, hx361_1⟩ := at_T28 HR0.out x6_2 p361 q361
             obtain rfl : ad360 = ad361 := (by injection e361)
             replace hx361_0 := (HB.out.cell (World.block_lt_of_cell? w _ hx361_0)).trans hx361_0
             replace hx361_1 := (HB.out.cell (World.block_lt_of_cell? w _ hx361_1)).trans hx361_1
             replace p361 := eq_true p361
             replace q361 := eq_true q361
             have p362 : 0 ≤ (x5_2 : Int) := of_decide_eq_true (by first | (with_reducible assumption) | assumption)
             have q362 : x5_2 < (l0.length : Int) := of_decide_eq_true (by first | (with_reducible assumption) | assumption)
             obtain ⟨ad362, e362, hx362_0, hx362_1⟩ := at_T28 HR0.out x5_2 p362 q362
             obtain rfl : ad360 = ad362 := (by injection e362)
             replace hx362_0 := (HB.out.cell (World.block_lt_of_cell? w _ hx362_0)).trans hx362_0
             replace hx362_1 := (HB.out.cell (World.block_lt_of_cell? w _ hx362_1)).trans hx362_1
             replace p362 := eq_true p362
             replace q362 := eq_true q362
             go_wp2
             repeat (go_quiet (fail); try go_wp2)
             go_roundg k2
             case measure => have := HK1.out; have := HK2.out; omega
             case rel => exact ⟨(x5_2), (wrap64 (x6_2 + 1)), (by first | rfl | (simp; done) | (simp [*]; done) | (simp only [i64_w]; done) | (simp [i64_w, Int.tdiv_eq_ediv_of_nonneg]; done)), (by first | rfl | (simp; done) | (simp [*]; done) | (simp only [i64_w]; done) | (simp [i64_w, Int.tdiv_eq_ediv_of_nonneg]; done)), H', ⟨by have := HK1.out; have := HK2.out; omega⟩, ⟨by (with_reducible repeat (first | apply Kd.R_alloc | apply Kd.R_drewN | apply Kd.R_drew)); exact HO_3.out⟩, ⟨by repeat (first | (with_reducible first | exact HB.out | apply below_alloc | apply pw_below_drewN | apply below_drew1) | exact HB.out)⟩⟩
           ·
            rw [if_neg c10] at H
            exact absurd H (by simp)
          ·
           rw [if_neg c9] at H
           exact absurd H (by simp)
        ·
         rw [if_neg c7] at H
         have c7b0 : (Op.bytesLess x4_1.toList (((rd_T28 l0 x6_2).f0).toList)) = false := by simpa using c7
         clear c7
         have H' := Aside0.mk H
         clear H
         have p360 : 0 ≤ (x6_2 : Int) := of_decide_eq_true (by first | (with_reducible assumption) | assumption)
         have q360 : x6_2 < (l0.length : Int) := of_decide_eq_true (by first | (with_reducible assumption) | assumption)
         obtain ⟨ad360, e360, hx360_0, hx360_1⟩ := at_T28 HR0.out x6_2 p360 q360
         cases e360
         replace hx360_0 := (HB.out.cell (World.block_lt_of_cell? w _ hx360_0)).trans hx360_0
         replace hx360_1 := (HB.out.cell (World.block_lt_of_cell? w _ hx360_1)).trans hx360_1
         replace p360 := eq_true p360
         replace q360 := eq_true q360
         go_wp2
         repeat (go_quiet (fail); try go_wp2)
         go_roundg k2
         case measure => have := HK1.out; have := HK2.out; omega
         case rel => exact ⟨(x5_2), (wrap64 (x6_2 + 1)), (by first | rfl | (simp; done) | (simp [*]; done) | (simp only [i64_w]; done) | (simp [i64_w, Int.tdiv_eq_ediv_of_nonneg]; done)), (by first | rfl | (simp; done) | (simp [*]; done) | (simp only [i64_w]; done) | (simp [i64_w, Int.tdiv_eq_ediv_of_nonneg]; done)), H', ⟨by have := HK1.out; have := HK2.out; omega⟩, ⟨by (with_reducible repeat (first | apply Kd.R_alloc | apply Kd.R_drewN | apply Kd.R_drew)); exact HO_3.out⟩, ⟨by repeat (first | (with_reducible first | exact HB.out | apply below_alloc | apply pw_below_drewN | apply below_drew1) | exact HB.out)⟩⟩
       ·
        rw [if_neg c6] at H
        exact absurd H (by simp)
      ·
       rw [if_neg c5] at H
       have c5b0 : decide (x6_2 < (l0.length : Int)) = false := decide_eq_false c5
       clear c5
       by_cases c12 : x5_2 < 0
       ·
        rw [if_pos c12] at H
        have c12b0 : decide (x5_2 < 0) = true := decide_eq_true c12
        clear c12
        obtain rfl := Option.some.inj H
        go_wp2
        repeat (go_quiet (fail); try go_wp2)
        go_ret
        exact ⟨_, by first | rfl | (simp [errW_none, errW_some] <;> rfl) | (simp [*, errW_none, errW_some] <;> rfl), by (with_reducible repeat (first | apply Kd.R_alloc | apply Kd.R_drewN | apply Kd.R_drew)); exact HO_3.out, by repeat (first | (with_reducible first | exact HB.out | apply below_alloc | apply pw_below_drewN | apply below_drew1) | exact HB.out)⟩
       ·
        rw [if_neg c12] at H
        have c12b0 : decide (x5_2 < 0) = false := decide_eq_false c12
        clear c12
        by_cases c13 : 0 ≤ x5_2
        ·
         rw [if_pos c13] at H
         have c13b0 : decide (0 ≤ x5_2) = true := decide_eq_true c13
         clear c13
         by_cases c14 : x5_2 < (l0.length : Int)
         ·
          rw [if_pos c14] at H
          have c14b0 : decide (x5_2 < (l0.length : Int)) = true := decide_eq_true c14
          clear c14
          by_cases c15 : ((rd_T28 l0 x5_2).f1) = 0
          ·
           rw [if_pos c15] at H
           have c15b0 : (((rd_T28 l0 x5_2).f1) == 0) = true := beq_iff_eq.mpr c15
           have c15b1 : (((rd_T28 l0 x5_2).f1) != 0) = false := bne_eq_false_iff_eq.mpr c15
           clear c15
           have H' := Aside0.mk H
           clear H
           have p363 : 0 ≤ (x5_2 : Int) := of_decide_eq_true (by first | (with_reducible assumption) | assumption)
           have q363 : x5_2 < (l0.length : Int) := of_decide_eq_true (by first | (with_reducible assumption) | assumption)
           obtain ⟨ad363, e363, hx363_0, hx363_1⟩ := at_T28 HR0.out x5_2 p363 q363
           cases e363
           replace hx363_0 := (HB.out.cell (World.block_lt_of_cell? w _ hx363_0)).trans hx363_0
           replace hx363_1 := (HB.out.cell (World.block_lt_of_cell? w _ hx363_1)).trans hx363_1
           replace p363 := eq_true p363
           replace q363 := eq_true q363
           have p364 : 0 ≤ (x5_2 : Int) := of_decide_eq_true (by first | (with_reducible assumption) | assumption)
           have q364 : x5_2 < (l0.length : Int) := of_decide_eq_true (by first | (with_reducible assumption) | assumption)
           obtain ⟨ad364, e364, hx364_0, hx364_1⟩ := at_T28 HR0.out x5_2 p364 q364
           obtain rfl : ad363 = ad364 := (by injection e364)
           replace hx364_0 := (HB.out.cell (World.block_lt_of_cell? w _ hx364_0)).trans hx364_0
           replace hx364_1 := (HB.out.cell (World.block_lt_of_cell? w _ hx364_1)).trans hx364_1
           replace p364 := eq_true p364
           replace q364 := eq_true q364
           go_wp2
           repeat (go_quiet (fail); try go_wp2)
           go_roundg k2
           case measure => have := HK1.out; have := HK2.out; omega
           case rel => exact ⟨(x3_1), ((rd_T28 l0 x5_2).f0), (wrap64 (x10_1 + 1)), (by first | rfl | (simp; done) | (simp [*]; done) | (simp only [i64_w]; done) | (simp [i64_w, Int.tdiv_eq_ediv_of_nonneg]; done)), (by first | rfl | (simp; done) | (simp [*]; done) | (simp only [i64_w]; done) | (simp [i64_w, Int.tdiv_eq_ediv_of_nonneg]; done)), H', ⟨by have := HK1.out; have := HK2.out; omega⟩, ⟨by (with_reducible repeat (first | apply Kd.R_alloc | apply Kd.R_drewN | apply Kd.R_drew)); exact HO_3.out⟩, ⟨by repeat (first | (with_reducible first | exact HB.out | apply below_alloc | apply pw_below_drewN | apply below_drew1) | exact HB.out)⟩⟩
          ·
           rw [if_neg c15] at H
           have c15b0 : (((rd_T28 l0 x5_2).f1) == 0) = false := beq_eq_false_iff_ne.mpr c15
           have c15b1 : (((rd_T28 l0 x5_2).f1) != 0) = true := bne_iff_ne.mpr c15
           by_cases c16 : x3_1.length < 5864062014805
           ·
            rw [if_pos c16] at H
            have LMc16 := Aside0.mk c16
            clear c16
            obtain ⟨y366, hy366⟩ : ∃ y_ : List (S28), y_ = (x3_1 ++ [(⟨(rd_T28 l0 x5_2).f0, (rd_T28 l0 x5_2).f1⟩ : S28)]) := ⟨_, rfl⟩
            replace H : (berthref02_Rising.l0 k2 l0 y366 ((rd_T28 l0 x5_2).f0) (l0.length : Int) (wrap64 (x10_1 + 1))) = some r := by first | (rw [hy366]; with_reducible exact H) | (have H2_ := (Option.bind_some _ _).symm.trans H; rw [hy366]; with_reducible exact H2_) | (have H2_ := (Option.bind_some _ _).symm.trans H; with_reducible exact H2_) | with_reducible exact H | (rw [hy366]; exact H) | exact H
            have Ny366 := Aside0.mk hy366
            clear hy366
            have H' := Aside0.mk H
            clear H
            have p363 : 0 ≤ (x5_2 : Int) := of_decide_eq_true (by first | (with_reducible assumption) | assumption)
            have q363 : x5_2 < (l0.length : Int) := of_decide_eq_true (by first | (with_reducible assumption) | assumption)
            obtain ⟨ad363, e363, hx363_0, hx363_1⟩ := at_T28 HR0.out x5_2 p363 q363
            cases e363
            replace hx363_0 := (HB.out.cell (World.block_lt_of_cell? w _ hx363_0)).trans hx363_0
            replace hx363_1 := (HB.out.cell (World.block_lt_of_cell? w _ hx363_1)).trans hx363_1
            replace p363 := eq_true p363
            replace q363 := eq_true q363
            have p364 : 0 ≤ (x5_2 : Int) := of_decide_eq_true (by first | (with_reducible assumption) | assumption)
            have q364 : x5_2 < (l0.length : Int) := of_decide_eq_true (by first | (with_reducible assumption) | assumption)
            obtain ⟨ad364, e364, hx364_0, hx364_1⟩ := at_T28 HR0.out x5_2 p364 q364
            obtain rfl : ad363 = ad364 := (by injection e364)
            replace hx364_0 := (HB.out.cell (World.block_lt_of_cell? w _ hx364_0)).trans hx364_0
            replace hx364_1 := (HB.out.cell (World.block_lt_of_cell? w _ hx364_1)).trans hx364_1
            replace p364 := eq_true p364
            replace q364 := eq_true q364
            have p365 : 0 ≤ (x5_2 : Int) := of_decide_eq_true (by first | (with_reducible assumption) | assumption)
            have q365 : x5_2 < (l0.length : Int) := of_decide_eq_true (by first | (with_reducible assumption) | assumption)
            obtain ⟨ad365, e365, hx365_0, hx365_1⟩ := at_T28 HR0.out x5_2 p365 q365
            obtain rfl : ad363 = ad365 := (by injection e365)
            replace hx365_0 := (HB.out.cell (World.block_lt_of_cell? w _ hx365_0)).trans hx365_0
            replace hx365_1 := (HB.out.cell (World.block_lt_of_cell? w _ hx365_1)).trans hx365_1
            replace p365 := eq_true p365
            replace q365 := eq_true q365
            go_wp2_with (first | ((with_reducible refine gate_builtin (b := .append) (xs := #[.tmp 57, .tmp 62]) rfl ?_); at_builtin; refine Kd.R_append k28 (w0 := w) w.heap.size rfl (.tmp 57) (.tmp 62) 23 28 (.agg #[(.string ⟨#[]⟩), (.int .i64 0)]) 24 rfl Try.underlying23 info28 rfl (by decide) (by omega) u3 x3_1 (⟨(rd_T28 l0 x5_2).f0, (rd_T28 l0 x5_2).f1⟩ : S28) [.string ((rd_T28 l0 x5_2).f0), .int .i64 ((rd_T28 l0 x5_2).f1)] (fun _ => True) (fun _ => False) rfl rfl ?aP (fun _ hk => hk.elim) ?aF ?aO ?aB ?aS ?aL ?_; (case aP => exact k28_mkM _ _ _ (⟨(rd_T28 l0 x5_2).f0, (rd_T28 l0 x5_2).f1⟩ : S28)); (case aB => exact (by repeat (first | (with_reducible first | exact HB.out | apply below_alloc | apply pw_below_drewN | apply below_drew1) | exact HB.out))); (case aF => exact (fun _ _ => trivial)); (case aO => exact (by (with_reducible repeat (first | apply Kd.R_alloc | apply Kd.R_drewN | apply Kd.R_drew)); exact HO_3.out)); (case aS => exact (below_size (by repeat (first | (with_reducible first | exact HB.out | apply below_alloc | apply pw_below_drewN | apply below_drew1) | exact HB.out)))); (case aL => have := LMc16.out; omega); intro v367 w17 ho hb hg hat; rw [← Ny366.out] at ho; have n0_ := Aside0.mk (hb); have n1_ := Aside0.mk (ho); clear HB; clear HO_3; have HB := n0_; have HO368 := n1_; clear n0_ n1_; clear ho hb hg hat))
            repeat (go_quiet (first | ((with_reducible refine gate_builtin (b := .append) (xs := #[.tmp 57, .tmp 62]) rfl ?_); at_builtin; refine Kd.R_append k28 (w0 := w) w.heap.size rfl (.tmp 57) (.tmp 62) 23 28 (.agg #[(.string ⟨#[]⟩), (.int .i64 0)]) 24 rfl Try.underlying23 info28 rfl (by decide) (by omega) u3 x3_1 (⟨(rd_T28 l0 x5_2).f0, (rd_T28 l0 x5_2).f1⟩ : S28) [.string ((rd_T28 l0 x5_2).f0), .int .i64 ((rd_T28 l0 x5_2).f1)] (fun _ => True) (fun _ => False) rfl rfl ?aP (fun _ hk => hk.elim) ?aF ?aO ?aB ?aS ?aL ?_; (case aP => exact k28_mkM _ _ _ (⟨(rd_T28 l0 x5_2).f0, (rd_T28 l0 x5_2).f1⟩ : S28)); (case aB => exact (by repeat (first | (with_reducible first | exact HB.out | apply below_alloc | apply pw_below_drewN | apply below_drew1) | exact HB.out))); (case aF => exact (fun _ _ => trivial)); (case aO => exact (by (with_reducible repeat (first | apply Kd.R_alloc | apply Kd.R_drewN | apply Kd.R_drew)); exact HO_3.out)); (case aS => exact (below_size (by repeat (first | (with_reducible first | exact HB.out | apply below_alloc | apply pw_below_drewN | apply below_drew1) | exact HB.out)))); (case aL => have := LMc16.out; omega); intro v367 w17 ho hb hg hat; rw [← Ny366.out] at ho; have n0_ := Aside0.mk (hb); have n1_ := Aside0.mk (ho); clear HB; clear HO_3; have HB := n0_; have HO368 := n1_; clear n0_ n1_; clear ho hb hg hat)); try go_wp2_with (first | ((with_reducible refine gate_builtin (b := .append) (xs := #[.tmp 57, .tmp 62]) rfl ?_); at_builtin; refine Kd.R_append k28 (w0 := w) w.heap.size rfl (.tmp 57) (.tmp 62) 23 28 (.agg #[(.string ⟨#[]⟩), (.int .i64 0)]) 24 rfl Try.underlying23 info28 rfl (by decide) (by omega) u3 x3_1 (⟨(rd_T28 l0 x5_2).f0, (rd_T28 l0 x5_2).f1⟩ : S28) [.string ((rd_T28 l0 x5_2).f0), .int .i64 ((rd_T28 l0 x5_2).f1)] (fun _ => True) (fun _ => False) rfl rfl ?aP (fun _ hk => hk.elim) ?aF ?aO ?aB ?aS ?aL ?_; (case aP => exact k28_mkM _ _ _ (⟨(rd_T28 l0 x5_2).f0, (rd_T28 l0 x5_2).f1⟩ : S28)); (case aB => exact (by repeat (first | (with_reducible first | exact HB.out | apply below_alloc | apply pw_below_drewN | apply below_drew1) | exact HB.out))); (case aF => exact (fun _ _ => trivial)); (case aO => exact (by (with_reducible repeat (first | apply Kd.R_alloc | apply Kd.R_drewN | apply Kd.R_drew)); exact HO_3.out)); (case aS => exact (below_size (by repeat (first | (with_reducible first | exact HB.out | apply below_alloc | apply pw_below_drewN | apply below_drew1) | exact HB.out)))); (case aL => have := LMc16.out; omega); intro v367 w17 ho hb hg hat; rw [← Ny366.out] at ho; have n0_ := Aside0.mk (hb); have n1_ := Aside0.mk (ho); clear HB; clear HO_3; have HB := n0_; have HO368 := n1_; clear n0_ n1_; clear ho hb hg hat)))
            go_roundg k2
            case measure => have := HK1.out; have := HK2.out; omega
            case rel => exact ⟨(y366), ((rd_T28 l0 x5_2).f0), (wrap64 (x10_1 + 1)), (by first | rfl | (simp; done) | (simp [*]; done) | (simp only [i64_w]; done) | (simp [i64_w, Int.tdiv_eq_ediv_of_nonneg]; done)), (by first | rfl | (simp; done) | (simp [*]; done) | (simp only [i64_w]; done) | (simp [i64_w, Int.tdiv_eq_ediv_of_nonneg]; done)), H', ⟨by have := HK1.out; have := HK2.out; omega⟩, ⟨by (with_reducible repeat (first | apply Kd.R_alloc | apply Kd.R_drewN | apply Kd.R_drew)); exact HO368.out⟩, ⟨by repeat (first | (with_reducible first | exact HB.out | apply below_alloc | apply pw_below_drewN | apply below_drew1) | exact HB.out)⟩⟩
           ·
            rw [if_neg c16] at H
            exact absurd H (by simp)
         ·
          rw [if_neg c14] at H
          exact absurd H (by simp)
        ·
         rw [if_neg c13] at H
         exact absurd H (by simp)
   ·
    rw [if_neg c4] at H
    have c4b0 : decide (x10_1 < (l0.length : Int)) = false := decide_eq_false c4
    clear c4
    obtain rfl := Option.some.inj H
    go_wp2
    repeat (go_quiet (fail); try go_wp2)
    go_ret
    exact ⟨_, by first | rfl | (simp [errW_none, errW_some] <;> rfl) | (simp [*, errW_none, errW_some] <;> rfl), by (with_reducible repeat (first | apply Kd.R_alloc | apply Kd.R_drewN | apply Kd.R_drew)); exact HO_3.out, by repeat (first | (with_reducible first | exact HB.out | apply below_alloc | apply pw_below_drewN | apply below_drew1) | exact HB.out)⟩
mutual
def berthref02_Add.j0 : Nat → List (S28) → List (S28) → Int → Option ((List (S28)) × ByteArray × Int)
  | 0, _, _, _ => none
  | k + 1, x0, x1, x7 => if x7 = 0 then ((berthref02_both.f k x0 x1).bind fun t371 => (if (t371.length : Int) > 16 then (some (([] : List (S28)), (⟨#[]⟩ : ByteArray), 27)) else (berthref02_Add.l0 k x0 x1 t371 (⟨#[]⟩ : ByteArray) 0))) else (some (([] : List (S28)), (⟨#[]⟩ : ByteArray), x7))
def berthref02_Add.l0 : Nat → List (S28) → List (S28) → List (S28) → ByteArray → Int → Option ((List (S28)) × ByteArray × Int)
  | 0, _, _, _, _, _ => none
  | k + 1, x0, x1, x8, x9, x10 => if x10 < (x8.length : Int) then (if 0 ≤ x10 then ((berthref02_Get.f k x0 ((rd_T28 x8 x10).f0)).bind fun t378 => ((berthref02_Get.f k x1 ((rd_T28 x8 x10).f0)).bind fun t380 => (if t378 > (wrap64 (9223372036854775807 - t380)) then (if x9.toList = ([] : List UInt8) then (berthref02_Add.l0 k x0 x1 x8 ((rd_T28 x8 x10).f0) (wrap64 (x10 + 1))) else (if (Op.bytesLess (((rd_T28 x8 x10).f0).toList) x9.toList) = true then (berthref02_Add.l0 k x0 x1 x8 ((rd_T28 x8 x10).f0) (wrap64 (x10 + 1))) else (berthref02_Add.l0 k x0 x1 x8 x9 (wrap64 (x10 + 1))))) else (berthref02_Add.l0 k x0 x1 (x8.set (x10 : Int).toNat (⟨(rd_T28 x8 x10).f0, wrap64 (t378 + t380)⟩ : S28)) x9 (wrap64 (x10 + 1)))))) else (none)) else (if x9.toList = ([] : List UInt8) then ((berthref02_Rising.f k x8).bind fun t374 => (some (t374, (⟨#[]⟩ : ByteArray), 0))) else (some (([] : List (S28)), x9, 28)))
end
def berthref02_Add.f (k : Nat) (l0 : List (S28)) (l1 : List (S28)) : Option ((List (S28)) × ByteArray × Int) := (berthref02_Check.f k l0).bind fun t369 => (if t369 = 0 then ((berthref02_Check.f k l1).bind fun t370 => (berthref02_Add.j0 k l0 l1 t370)) else (berthref02_Add.j0 k l0 l1 t369))
theorem berthref02_Add.mono_l : ∀ k, (∀ y0 y1 y2, LeO (berthref02_Add.j0 k y0 y1 y2) (berthref02_Add.j0 (k + 1) y0 y1 y2)) ∧ (∀ y0 y1 y2 y3 y4, LeO (berthref02_Add.l0 k y0 y1 y2 y3 y4) (berthref02_Add.l0 (k + 1) y0 y1 y2 y3 y4))
  | 0 => ⟨fun _ _ _ r h => by simp [berthref02_Add.j0] at h, fun _ _ _ _ _ r h => by simp [berthref02_Add.l0] at h⟩
  | k + 1 => by
    obtain ⟨ih0, ih1⟩ := berthref02_Add.mono_l k
    refine ⟨?_, ?_⟩
    · intro y0 y1 y2
      unfold berthref02_Add.j0
      repeat' first
      | (with_reducible exact ih0 _ _ _)
      | (with_reducible exact ih1 _ _ _ _ _)
      | (with_reducible exact berthref02_Check.mono _ _)
      | (with_reducible exact berthref02_Get.mono _ _ _)
      | (with_reducible exact berthref02_Rising.mono _ _)
      | (with_reducible exact berthref02_both.mono _ _ _)
      | (with_reducible exact LeO.refl _)
      | (with_reducible exact LeO.none _)
      | (with_reducible refine LeO.ite ?_ ?_)
      | (with_reducible refine LeO.bind ?_ (fun _ => ?_))
      | exact ih0 _ _ _
      | exact ih1 _ _ _ _ _
      | exact berthref02_Check.mono _ _
      | exact berthref02_Get.mono _ _ _
      | exact berthref02_Rising.mono _ _
      | exact berthref02_both.mono _ _ _
      | exact LeO.none _
      | refine LeO.ite ?_ ?_
      | refine LeO.bind ?_ (fun _ => ?_)
    · intro y0 y1 y2 y3 y4
      unfold berthref02_Add.l0
      repeat' first
      | (with_reducible exact ih0 _ _ _)
      | (with_reducible exact ih1 _ _ _ _ _)
      | (with_reducible exact berthref02_Check.mono _ _)
      | (with_reducible exact berthref02_Get.mono _ _ _)
      | (with_reducible exact berthref02_Rising.mono _ _)
      | (with_reducible exact berthref02_both.mono _ _ _)
      | (with_reducible exact LeO.refl _)
      | (with_reducible exact LeO.none _)
      | (with_reducible refine LeO.ite ?_ ?_)
      | (with_reducible refine LeO.bind ?_ (fun _ => ?_))
      | exact ih0 _ _ _
      | exact ih1 _ _ _ _ _
      | exact berthref02_Check.mono _ _
      | exact berthref02_Get.mono _ _ _
      | exact berthref02_Rising.mono _ _
      | exact berthref02_both.mono _ _ _
      | exact LeO.none _
      | refine LeO.ite ?_ ?_
      | refine LeO.bind ?_ (fun _ => ?_)
theorem berthref02_Add.mono : ∀ a0 a1 k, LeO (berthref02_Add.f k a0 a1) (berthref02_Add.f (k + 1) a0 a1) := by
  intro a0 a1 k
  obtain ⟨ih0, ih1⟩ := berthref02_Add.mono_l k
  unfold berthref02_Add.f
  repeat' first
      | (with_reducible exact ih0 _ _ _)
      | (with_reducible exact ih1 _ _ _ _ _)
      | (with_reducible exact berthref02_Check.mono _ _)
      | (with_reducible exact berthref02_Get.mono _ _ _)
      | (with_reducible exact berthref02_Rising.mono _ _)
      | (with_reducible exact berthref02_both.mono _ _ _)
      | (with_reducible exact LeO.refl _)
      | (with_reducible exact LeO.none _)
      | (with_reducible refine LeO.ite ?_ ?_)
      | (with_reducible refine LeO.bind ?_ (fun _ => ?_))
      | exact ih0 _ _ _
      | exact ih1 _ _ _ _ _
      | exact berthref02_Check.mono _ _
      | exact berthref02_Get.mono _ _ _
      | exact berthref02_Rising.mono _ _
      | exact berthref02_both.mono _ _ _
      | exact LeO.none _
      | refine LeO.ite ?_ ?_
      | refine LeO.bind ?_ (fun _ => ?_)
set_option maxHeartbeats 8000000 in
set_option maxRecDepth 100000 in
theorem berthref02_Add.calls (k : Nat) (A0 : Option Addr) (c0 : Nat) (l0 : List (S28)) (A1 : Option Addr) (c1 : Nat) (l1 : List (S28)) (r1 : List (S28)) (r2 : ByteArray) (r3 : Int) (w : World) (hr0 : Kd.C k28 w A0 l0.length l0) (hc0 : l0.length ≤ c0) (hr1 : Kd.C k28 w A1 l1.length l1) (hc1 : l1.length ≤ c1) (h : berthref02_Add.f k l0 l1 = some (r1, r2, r3)) :
 Calls Try.prog 29 #[.slice A0 l0.length c0, .slice A1 l1.length c1] w fun e w' => ∃ v0_ : Value, e = .returned (.tuple #[v0_, .string r2, .int .i64 r3]) ∧ Kd.R k28 28 w' w.heap.size (fun _ => True) v0_ r1 ∧ Below w.heap.size w w' := by
 have HR0 := Aside0.mk hr0
 have HC0 := Aside0.mk hc0
 clear hr0 hc0
 have HR1 := Aside0.mk hr1
 have HC1 := Aside0.mk hc1
 clear hr1 hc1
 have HB := Aside0.mk (Below.refl w.heap.size w)
 have H : ((berthref02_Check.f k l0).bind fun t369 => (if t369 = 0 then ((berthref02_Check.f k l1).bind fun t370 => (berthref02_Add.j0 k l0 l1 t370)) else (berthref02_Add.j0 k l0 l1 t369))) = some (r1, r2, r3) := h
 clear h
 replace H := Option.bind_eq_some_iff.mp H
 obtain ⟨t369, A30, H⟩ := H
 replace H : (if t369 = 0 then ((berthref02_Check.f k l1).bind fun t370 => (berthref02_Add.j0 k l0 l1 t370)) else (berthref02_Add.j0 k l0 l1 t369)) = some (r1, r2, r3) := H
 have A3 := Aside0.mk A30
 clear A30
 have HC4 := Aside0.mk H
 clear H
 go_enter Try.func29, Try.ntmps29
 go_upto_if 16 with (first | (go_at_call 33; (with_reducible refine (berthref02_Check.calls k _ _ l0 t369 _ ?side1 ?side2 A3.out).mono ?_); (case side1 => repeat (first | exact HR0.out | (with_reducible refine Kd.C_alloc ?_ _) | (with_reducible refine Kd.C_drewN ?_ _) | (with_reducible refine Kd.C_drew ?_))); (case side2 => exact HC0.out); rintro e w' ⟨rfl, ⟨nd, rfl⟩⟩; (try first | exact ⟨rfl, _, World.drewN_drewN _ _ _⟩ | exact ⟨rfl, _, Eq.trans (World.drewN_drewN _ _ _) (congrArg (World.drewN _) (Nat.add_assoc _ _ _))⟩)))
 repeat (go_quiet (first | (go_at_call 33; (with_reducible refine (berthref02_Check.calls k _ _ l0 t369 _ ?side1 ?side2 A3.out).mono ?_); (case side1 => repeat (first | exact HR0.out | (with_reducible refine Kd.C_alloc ?_ _) | (with_reducible refine Kd.C_drewN ?_ _) | (with_reducible refine Kd.C_drew ?_))); (case side2 => exact HC0.out); rintro e w' ⟨rfl, ⟨nd, rfl⟩⟩; (try first | exact ⟨rfl, _, World.drewN_drewN _ _ _⟩ | exact ⟨rfl, _, Eq.trans (World.drewN_drewN _ _ _) (congrArg (World.drewN _) (Nat.add_assoc _ _ _))⟩))); go_upto_if 16 with (first | (go_at_call 33; (with_reducible refine (berthref02_Check.calls k _ _ l0 t369 _ ?side1 ?side2 A3.out).mono ?_); (case side1 => repeat (first | exact HR0.out | (with_reducible refine Kd.C_alloc ?_ _) | (with_reducible refine Kd.C_drewN ?_ _) | (with_reducible refine Kd.C_drew ?_))); (case side2 => exact HC0.out); rintro e w' ⟨rfl, ⟨nd, rfl⟩⟩; (try first | exact ⟨rfl, _, World.drewN_drewN _ _ _⟩ | exact ⟨rfl, _, Eq.trans (World.drewN_drewN _ _ _) (congrArg (World.drewN _) (Nat.add_assoc _ _ _))⟩))))
 (try simp only [Act.put, List.setIfInBounds_toArray, List.set_cons_zero, List.set_cons_succ])
 go_cut [7] (fun v7 wc => ∃ (kq : Nat) (x7_3 : Int), v7 = .int .i64 x7_3 ∧ Aside0 (berthref02_Add.j0 kq l0 l1 x7_3 = some (r1, r2, r3)) ∧ Aside0 (kq ≤ k) ∧ Aside0 (Below w.heap.size w wc))
 case first =>
  have H := HC4.out
  clear HC4
  by_cases c5 : t369 = 0
  ·
   rw [if_pos c5] at H
   have c5b0 : (t369 == 0) = true := beq_iff_eq.mpr c5
   have c5b1 : (t369 != 0) = false := bne_eq_false_iff_eq.mpr c5
   clear c5
   (first | rw [c5b0] | (simp only [i64_w, i32_w]; rw [c5b0]) | skip)
   replace H := Option.bind_eq_some_iff.mp H
   obtain ⟨t370, A60, H⟩ := H
   replace H : (berthref02_Add.j0 k l0 l1 t370) = some (r1, r2, r3) := H
   have A6 := Aside0.mk A60
   clear A60
   have H' := Aside0.mk H
   clear H
   go_wp2_with (first | (go_at_call 33; (with_reducible refine (berthref02_Check.calls k _ _ l1 t370 _ ?side1 ?side2 A6.out).mono ?_); (case side1 => repeat (first | exact (Kd.C_below HR1.out HB.out) | (with_reducible refine Kd.C_alloc ?_ _) | (with_reducible refine Kd.C_drewN ?_ _) | (with_reducible refine Kd.C_drew ?_))); (case side2 => exact HC1.out); rintro e w' ⟨rfl, ⟨nd, rfl⟩⟩; (try first | exact ⟨rfl, _, World.drewN_drewN _ _ _⟩ | exact ⟨rfl, _, Eq.trans (World.drewN_drewN _ _ _) (congrArg (World.drewN _) (Nat.add_assoc _ _ _))⟩)))
   repeat (go_quiet (first | (go_at_call 33; (with_reducible refine (berthref02_Check.calls k _ _ l1 t370 _ ?side1 ?side2 A6.out).mono ?_); (case side1 => repeat (first | exact (Kd.C_below HR1.out HB.out) | (with_reducible refine Kd.C_alloc ?_ _) | (with_reducible refine Kd.C_drewN ?_ _) | (with_reducible refine Kd.C_drew ?_))); (case side2 => exact HC1.out); rintro e w' ⟨rfl, ⟨nd, rfl⟩⟩; (try first | exact ⟨rfl, _, World.drewN_drewN _ _ _⟩ | exact ⟨rfl, _, Eq.trans (World.drewN_drewN _ _ _) (congrArg (World.drewN _) (Nat.add_assoc _ _ _))⟩))); try go_wp2_with (first | (go_at_call 33; (with_reducible refine (berthref02_Check.calls k _ _ l1 t370 _ ?side1 ?side2 A6.out).mono ?_); (case side1 => repeat (first | exact (Kd.C_below HR1.out HB.out) | (with_reducible refine Kd.C_alloc ?_ _) | (with_reducible refine Kd.C_drewN ?_ _) | (with_reducible refine Kd.C_drew ?_))); (case side2 => exact HC1.out); rintro e w' ⟨rfl, ⟨nd, rfl⟩⟩; (try first | exact ⟨rfl, _, World.drewN_drewN _ _ _⟩ | exact ⟨rfl, _, Eq.trans (World.drewN_drewN _ _ _) (congrArg (World.drewN _) (Nat.add_assoc _ _ _))⟩))))
   go_meet
   case rel => exact ⟨_, (t370), (by first | rfl | (simp; done) | (simp [*]; done) | (simp only [i64_w]; done) | (simp [i64_w, Int.tdiv_eq_ediv_of_nonneg]; done)), H', ⟨by first | omega | exact Nat.le_refl _⟩, ⟨by repeat (first | (with_reducible first | exact HB.out | apply below_alloc | apply pw_below_drewN | apply below_drew1) | exact HB.out)⟩⟩
  ·
   rw [if_neg c5] at H
   have c5b0 : (t369 == 0) = false := beq_eq_false_iff_ne.mpr c5
   have c5b1 : (t369 != 0) = true := bne_iff_ne.mpr c5
   (first | rw [c5b0] | (simp only [i64_w, i32_w]; rw [c5b0]) | skip)
   have H' := Aside0.mk H
   clear H
   go_wp2
   repeat (go_quiet (fail); try go_wp2)
   go_meet
   case rel => exact ⟨_, (t369), (by first | rfl | (simp; done) | (simp [*]; done) | (simp only [i64_w]; done) | (simp [i64_w, Int.tdiv_eq_ediv_of_nonneg]; done)), H', ⟨by first | omega | exact Nat.le_refl _⟩, ⟨by repeat (first | (with_reducible first | exact HB.out | apply below_alloc | apply pw_below_drewN | apply below_drew1) | exact HB.out)⟩⟩
 case rest =>
  clear HC4
  try clear c1
  try clear c2
  try clear p2
  try clear c5
  try clear c5b0
  try clear c5b1
  obtain ⟨kq, x7_3, rfl, HA, HJ3, HB⟩ := hcut
  cases kq with
  | zero => exact absurd HA.out (by simp [berthref02_Add.j0])
  | succ kj3 =>
   have H := HA.out
   clear HA
   simp only [berthref02_Add.j0] at H
   by_cases c7 : x7_3 = 0
   ·
    rw [if_pos c7] at H
    have c7b0 : (x7_3 == 0) = true := beq_iff_eq.mpr c7
    have c7b1 : (x7_3 != 0) = false := bne_eq_false_iff_eq.mpr c7
    clear c7
    replace H := Option.bind_eq_some_iff.mp H
    obtain ⟨t371, A80, H⟩ := H
    replace H : (if (t371.length : Int) > 16 then (some (([] : List (S28)), (⟨#[]⟩ : ByteArray), 27)) else (berthref02_Add.l0 kj3 l0 l1 t371 (⟨#[]⟩ : ByteArray) 0)) = some (r1, r2, r3) := H
    have A8 := Aside0.mk A80
    clear A80
    by_cases c9 : (t371.length : Int) > 16
    ·
     rw [if_pos c9] at H
     have c9b0 : decide (16 < (t371.length : Int)) = true := decide_eq_true c9
     have c9b1 : decide (16 < t371.length) = true := decide_eq_true (by omega)
     clear c9
     simp only [Option.some.injEq, Prod.mk.injEq] at H
     obtain ⟨rfl, rfl, rfl⟩ := H
     go_wp2_with (first | (go_at_call 34; (with_reducible refine (berthref02_both.calls kj3 _ _ l0 _ _ l1 t371 _ ?side1 ?side2 ?side3 ?side4 A8.out).mono ?_); (case side1 => repeat (first | exact (Kd.C_below HR0.out HB.out) | (with_reducible refine Kd.C_alloc ?_ _) | (with_reducible refine Kd.C_drewN ?_ _) | (with_reducible refine Kd.C_drew ?_))); (case side2 => exact HC0.out); (case side3 => repeat (first | exact (Kd.C_below HR1.out HB.out) | (with_reducible refine Kd.C_alloc ?_ _) | (with_reducible refine Kd.C_drewN ?_ _) | (with_reducible refine Kd.C_drew ?_))); (case side4 => exact HC1.out); rintro e w10 ⟨v372, rfl, ho0, hb⟩; have n0_ := Aside0.mk (Kd.R_lower ho0 (below_size (by repeat (first | (with_reducible first | exact HB.out | apply below_alloc | apply pw_below_drewN | apply below_drew1) | exact HB.out)))); have n1_ := Aside0.mk (below_step (by repeat (first | (with_reducible first | exact HB.out | apply below_alloc | apply pw_below_drewN | apply below_drew1) | exact HB.out)) hb); clear HB; have HO373 := n0_; have HB := n1_; clear n0_ n1_; (try clear hb); (try clear hb2); (try clear hk); (try clear hi); (try clear ho0); obtain ⟨Ao11, co11, eo11⟩ := Kd.R_slice HO373.out; subst eo11))
     repeat (go_quiet (first | (go_at_call 34; (with_reducible refine (berthref02_both.calls kj3 _ _ l0 _ _ l1 t371 _ ?side1 ?side2 ?side3 ?side4 A8.out).mono ?_); (case side1 => repeat (first | exact (Kd.C_below HR0.out HB.out) | (with_reducible refine Kd.C_alloc ?_ _) | (with_reducible refine Kd.C_drewN ?_ _) | (with_reducible refine Kd.C_drew ?_))); (case side2 => exact HC0.out); (case side3 => repeat (first | exact (Kd.C_below HR1.out HB.out) | (with_reducible refine Kd.C_alloc ?_ _) | (with_reducible refine Kd.C_drewN ?_ _) | (with_reducible refine Kd.C_drew ?_))); (case side4 => exact HC1.out); rintro e w10 ⟨v372, rfl, ho0, hb⟩; have n0_ := Aside0.mk (Kd.R_lower ho0 (below_size (by repeat (first | (with_reducible first | exact HB.out | apply below_alloc | apply pw_below_drewN | apply below_drew1) | exact HB.out)))); have n1_ := Aside0.mk (below_step (by repeat (first | (with_reducible first | exact HB.out | apply below_alloc | apply pw_below_drewN | apply below_drew1) | exact HB.out)) hb); clear HB; have HO373 := n0_; have HB := n1_; clear n0_ n1_; (try clear hb); (try clear hb2); (try clear hk); (try clear hi); (try clear ho0); obtain ⟨Ao11, co11, eo11⟩ := Kd.R_slice HO373.out; subst eo11)); try go_wp2_with (first | (go_at_call 34; (with_reducible refine (berthref02_both.calls kj3 _ _ l0 _ _ l1 t371 _ ?side1 ?side2 ?side3 ?side4 A8.out).mono ?_); (case side1 => repeat (first | exact (Kd.C_below HR0.out HB.out) | (with_reducible refine Kd.C_alloc ?_ _) | (with_reducible refine Kd.C_drewN ?_ _) | (with_reducible refine Kd.C_drew ?_))); (case side2 => exact HC0.out); (case side3 => repeat (first | exact (Kd.C_below HR1.out HB.out) | (with_reducible refine Kd.C_alloc ?_ _) | (with_reducible refine Kd.C_drewN ?_ _) | (with_reducible refine Kd.C_drew ?_))); (case side4 => exact HC1.out); rintro e w10 ⟨v372, rfl, ho0, hb⟩; have n0_ := Aside0.mk (Kd.R_lower ho0 (below_size (by repeat (first | (with_reducible first | exact HB.out | apply below_alloc | apply pw_below_drewN | apply below_drew1) | exact HB.out)))); have n1_ := Aside0.mk (below_step (by repeat (first | (with_reducible first | exact HB.out | apply below_alloc | apply pw_below_drewN | apply below_drew1) | exact HB.out)) hb); clear HB; have HO373 := n0_; have HB := n1_; clear n0_ n1_; (try clear hb); (try clear hb2); (try clear hk); (try clear hi); (try clear ho0); obtain ⟨Ao11, co11, eo11⟩ := Kd.R_slice HO373.out; subst eo11)))
     go_ret3
     exact ⟨_, by first | rfl | (simp [errW_none, errW_some] <;> rfl) | (simp [*, errW_none, errW_some] <;> rfl), by first | exact Kd.R_nil _ _ _ _ _ | exact Kd.N_nil _ _ _ _ _ | exact Kd.V_nil _ _ _ _ _ | exact Kd.Q_nil _ _ _ _ _ | exact Kd.S_nil _ _ _ _ _, by repeat (first | (with_reducible first | exact HB.out | apply below_alloc | apply pw_below_drewN | apply below_drew1) | exact HB.out)⟩
    ·
     rw [if_neg c9] at H
     have c9b0 : decide (16 < (t371.length : Int)) = false := decide_eq_false c9
     have c9b1 : decide (16 < t371.length) = false := decide_eq_false (by omega)
     clear c9
     have H' := Aside0.mk H
     clear H
     go_wp2_with (first | (go_at_call 34; (with_reducible refine (berthref02_both.calls kj3 _ _ l0 _ _ l1 t371 _ ?side1 ?side2 ?side3 ?side4 A8.out).mono ?_); (case side1 => repeat (first | exact (Kd.C_below HR0.out HB.out) | (with_reducible refine Kd.C_alloc ?_ _) | (with_reducible refine Kd.C_drewN ?_ _) | (with_reducible refine Kd.C_drew ?_))); (case side2 => exact HC0.out); (case side3 => repeat (first | exact (Kd.C_below HR1.out HB.out) | (with_reducible refine Kd.C_alloc ?_ _) | (with_reducible refine Kd.C_drewN ?_ _) | (with_reducible refine Kd.C_drew ?_))); (case side4 => exact HC1.out); rintro e w12 ⟨v372, rfl, ho0, hb⟩; have n0_ := Aside0.mk (Kd.R_lower ho0 (below_size (by repeat (first | (with_reducible first | exact HB.out | apply below_alloc | apply pw_below_drewN | apply below_drew1) | exact HB.out)))); have n1_ := Aside0.mk (below_step (by repeat (first | (with_reducible first | exact HB.out | apply below_alloc | apply pw_below_drewN | apply below_drew1) | exact HB.out)) hb); clear HB; have HO373 := n0_; have HB := n1_; clear n0_ n1_; (try clear hb); (try clear hb2); (try clear hk); (try clear hi); (try clear ho0); obtain ⟨Ao13, co13, eo13⟩ := Kd.R_slice HO373.out; subst eo13))
     repeat (go_quiet (first | (go_at_call 34; (with_reducible refine (berthref02_both.calls kj3 _ _ l0 _ _ l1 t371 _ ?side1 ?side2 ?side3 ?side4 A8.out).mono ?_); (case side1 => repeat (first | exact (Kd.C_below HR0.out HB.out) | (with_reducible refine Kd.C_alloc ?_ _) | (with_reducible refine Kd.C_drewN ?_ _) | (with_reducible refine Kd.C_drew ?_))); (case side2 => exact HC0.out); (case side3 => repeat (first | exact (Kd.C_below HR1.out HB.out) | (with_reducible refine Kd.C_alloc ?_ _) | (with_reducible refine Kd.C_drewN ?_ _) | (with_reducible refine Kd.C_drew ?_))); (case side4 => exact HC1.out); rintro e w12 ⟨v372, rfl, ho0, hb⟩; have n0_ := Aside0.mk (Kd.R_lower ho0 (below_size (by repeat (first | (with_reducible first | exact HB.out | apply below_alloc | apply pw_below_drewN | apply below_drew1) | exact HB.out)))); have n1_ := Aside0.mk (below_step (by repeat (first | (with_reducible first | exact HB.out | apply below_alloc | apply pw_below_drewN | apply below_drew1) | exact HB.out)) hb); clear HB; have HO373 := n0_; have HB := n1_; clear n0_ n1_; (try clear hb); (try clear hb2); (try clear hk); (try clear hi); (try clear ho0); obtain ⟨Ao13, co13, eo13⟩ := Kd.R_slice HO373.out; subst eo13)); try go_wp2_with (first | (go_at_call 34; (with_reducible refine (berthref02_both.calls kj3 _ _ l0 _ _ l1 t371 _ ?side1 ?side2 ?side3 ?side4 A8.out).mono ?_); (case side1 => repeat (first | exact (Kd.C_below HR0.out HB.out) | (with_reducible refine Kd.C_alloc ?_ _) | (with_reducible refine Kd.C_drewN ?_ _) | (with_reducible refine Kd.C_drew ?_))); (case side2 => exact HC0.out); (case side3 => repeat (first | exact (Kd.C_below HR1.out HB.out) | (with_reducible refine Kd.C_alloc ?_ _) | (with_reducible refine Kd.C_drewN ?_ _) | (with_reducible refine Kd.C_drew ?_))); (case side4 => exact HC1.out); rintro e w12 ⟨v372, rfl, ho0, hb⟩; have n0_ := Aside0.mk (Kd.R_lower ho0 (below_size (by repeat (first | (with_reducible first | exact HB.out | apply below_alloc | apply pw_below_drewN | apply below_drew1) | exact HB.out)))); have n1_ := Aside0.mk (below_step (by repeat (first | (with_reducible first | exact HB.out | apply below_alloc | apply pw_below_drewN | apply below_drew1) | exact HB.out)) hb); clear HB; have HO373 := n0_; have HB := n1_; clear n0_ n1_; (try clear hb); (try clear hb2); (try clear hk); (try clear hi); (try clear ho0); obtain ⟨Ao13, co13, eo13⟩ := Kd.R_slice HO373.out; subst eo13)))
     go_loopg [9, 10] kj3 (fun kq v9 v10 w' => ∃ (x8_2 : List (S28)) (x9_2 : ByteArray) (x10_2 : Int), v9 = .string x9_2 ∧ v10 = .int .i64 x10_2 ∧ Aside0 (berthref02_Add.l0 kq l0 l1 x8_2 x9_2 x10_2 = some (r1, r2, r3)) ∧ Aside0 (kq ≤ kj3) ∧ Aside0 (Kd.R k28 28 w' w.heap.size (fun _ => True) (.slice Ao13 t371.length co13) x8_2) ∧ Aside0 (Below w.heap.size w w'))
     case atStart => exact ⟨(t371), ((⟨#[]⟩ : ByteArray)), (0), (by first | rfl | (simp; done) | (simp [*]; done) | (simp only [i64_w]; done) | (simp [i64_w, Int.tdiv_eq_ediv_of_nonneg]; done)), (by first | rfl | (simp; done) | (simp [*]; done) | (simp only [i64_w]; done) | (simp [i64_w, Int.tdiv_eq_ediv_of_nonneg]; done)), H', ⟨Nat.le_refl _⟩, ⟨by (with_reducible repeat (first | apply Kd.R_alloc | apply Kd.R_drewN | apply Kd.R_drew)); exact HO373.out⟩, ⟨by repeat (first | (with_reducible first | exact HB.out | apply below_alloc | apply pw_below_drewN | apply below_drew1) | exact HB.out)⟩⟩
     case round =>
      clear H'
      try clear c1
      try clear c2
      try clear p2
      try clear c5
      try clear c5b0
      try clear c5b1
      try clear c7
      try clear c7b0
      try clear c7b1
      try clear c9
      try clear c9b0
      try clear c9b1
      try clear p2
      obtain ⟨x8_2, x9_2, x10_2, rfl, rfl, HA, HK2, HO_8, HB⟩ := hrel
      have hl8_2 := (Kd.R_reads' HO_8.out).1
      rw [hl8_2] at HO_8
      (try simp only [hl8_2])
      cases gk with
      | zero => exact absurd HA.out (by simp [berthref02_Add.l0])
      | succ k2 =>
       have H := HA.out
       clear HA
       simp only [berthref02_Add.l0] at H
       by_cases c14 : x10_2 < (x8_2.length : Int)
       ·
        rw [if_pos c14] at H
        have c14b0 : decide (x10_2 < (x8_2.length : Int)) = true := decide_eq_true c14
        clear c14
        by_cases c15 : 0 ≤ x10_2
        ·
         rw [if_pos c15] at H
         have c15b0 : decide (0 ≤ x10_2) = true := decide_eq_true c15
         clear c15
         replace H := Option.bind_eq_some_iff.mp H
         obtain ⟨t378, A160, H⟩ := H
         replace H : ((berthref02_Get.f k2 l1 ((rd_T28 x8_2 x10_2).f0)).bind fun t380 => (if t378 > (wrap64 (9223372036854775807 - t380)) then (if x9_2.toList = ([] : List UInt8) then (berthref02_Add.l0 k2 l0 l1 x8_2 ((rd_T28 x8_2 x10_2).f0) (wrap64 (x10_2 + 1))) else (if (Op.bytesLess (((rd_T28 x8_2 x10_2).f0).toList) x9_2.toList) = true then (berthref02_Add.l0 k2 l0 l1 x8_2 ((rd_T28 x8_2 x10_2).f0) (wrap64 (x10_2 + 1))) else (berthref02_Add.l0 k2 l0 l1 x8_2 x9_2 (wrap64 (x10_2 + 1))))) else (berthref02_Add.l0 k2 l0 l1 (x8_2.set (x10_2 : Int).toNat (⟨(rd_T28 x8_2 x10_2).f0, wrap64 (t378 + t380)⟩ : S28)) x9_2 (wrap64 (x10_2 + 1))))) = some (r1, r2, r3) := H
         have A16 := Aside0.mk A160
         clear A160
         replace H := Option.bind_eq_some_iff.mp H
         obtain ⟨t380, A170, H⟩ := H
         replace H : (if t378 > (wrap64 (9223372036854775807 - t380)) then (if x9_2.toList = ([] : List UInt8) then (berthref02_Add.l0 k2 l0 l1 x8_2 ((rd_T28 x8_2 x10_2).f0) (wrap64 (x10_2 + 1))) else (if (Op.bytesLess (((rd_T28 x8_2 x10_2).f0).toList) x9_2.toList) = true then (berthref02_Add.l0 k2 l0 l1 x8_2 ((rd_T28 x8_2 x10_2).f0) (wrap64 (x10_2 + 1))) else (berthref02_Add.l0 k2 l0 l1 x8_2 x9_2 (wrap64 (x10_2 + 1))))) else (berthref02_Add.l0 k2 l0 l1 (x8_2.set (x10_2 : Int).toNat (⟨(rd_T28 x8_2 x10_2).f0, wrap64 (t378 + t380)⟩ : S28)) x9_2 (wrap64 (x10_2 + 1)))) = some (r1, r2, r3) := H
         have A17 := Aside0.mk A170
         clear A170
         by_cases c18 : t378 > (wrap64 (9223372036854775807 - t380))
         ·
          rw [if_pos c18] at H
          have c18b0 : decide ((wrap64 (9223372036854775807 - t380)) < t378) = true := decide_eq_true c18
          (try (have c18b1 : decide ((IntKind.i64.wrap (9223372036854775807 - t380)) < t378) = true := by have h_ : decide ((wrap64 (9223372036854775807 - t380)) < t378) = true := decide_eq_true c18; simp only [i64_w]; exact h_))
          clear c18
          by_cases c19 : x9_2.toList = ([] : List UInt8)
          ·
           rw [if_pos c19] at H
           have c19b0 : (x9_2.toList == ([] : List UInt8)) = true := beq_iff_eq.mpr c19
           have c19b1 : (x9_2.toList != ([] : List UInt8)) = false := bne_eq_false_iff_eq.mpr c19
           clear c19
           have H' := Aside0.mk H
           clear H
           have p377 : 0 ≤ (x10_2 : Int) := of_decide_eq_true (by first | (with_reducible assumption) | assumption)
           have q377 : x10_2 < (x8_2.length : Int) := of_decide_eq_true (by first | (with_reducible assumption) | assumption)
           obtain ⟨ad377, e377, hx377_0, hx377_1⟩ := at_T28 (Kd.R_reads' HO_8.out).2.2 x10_2 p377 q377
           cases e377
           replace p377 := eq_true p377
           replace q377 := eq_true q377
           go_wp2_with (first | (go_at_call 35; (with_reducible refine (berthref02_Get.calls k2 _ _ l0 ((rd_T28 x8_2 x10_2).f0) t378 _ ?side1 ?side2 A16.out).mono ?_); (case side1 => repeat (first | exact (Kd.C_below HR0.out HB.out) | (with_reducible refine Kd.C_alloc ?_ _) | (with_reducible refine Kd.C_drewN ?_ _) | (with_reducible refine Kd.C_drew ?_))); (case side2 => exact HC0.out); rintro e w' ⟨rfl, ⟨nd, rfl⟩⟩; (try first | exact ⟨rfl, _, World.drewN_drewN _ _ _⟩ | exact ⟨rfl, _, Eq.trans (World.drewN_drewN _ _ _) (congrArg (World.drewN _) (Nat.add_assoc _ _ _))⟩); have p379 : 0 ≤ (x10_2 : Int) := of_decide_eq_true (by first | (with_reducible assumption) | assumption); have q379 : x10_2 < (x8_2.length : Int) := of_decide_eq_true (by first | (with_reducible assumption) | assumption); obtain ⟨ad379, e379, hx379_0, hx379_1⟩ := at_T28 (Kd.R_reads' HO_8.out).2.2 x10_2 p379 q379; obtain rfl : ad377 = ad379 := (by injection e379); replace p379 := eq_true p379; replace q379 := eq_true q379) | (go_at_call 35; (with_reducible refine (berthref02_Get.calls k2 _ _ l1 ((rd_T28 x8_2 x10_2).f0) t380 _ ?side1 ?side2 A17.out).mono ?_); (case side1 => repeat (first | exact (Kd.C_below HR1.out (by repeat (first | (with_reducible first | exact HB.out | apply below_alloc | apply pw_below_drewN | apply below_drew1) | exact HB.out))) | (with_reducible refine Kd.C_alloc ?_ _) | (with_reducible refine Kd.C_drewN ?_ _) | (with_reducible refine Kd.C_drew ?_))); (case side2 => exact HC1.out); rintro e w' ⟨rfl, ⟨nd, rfl⟩⟩; (try first | exact ⟨rfl, _, World.drewN_drewN _ _ _⟩ | exact ⟨rfl, _, Eq.trans (World.drewN_drewN _ _ _) (congrArg (World.drewN _) (Nat.add_assoc _ _ _))⟩); have p381 : 0 ≤ (x10_2 : Int) := of_decide_eq_true (by first | (with_reducible assumption) | assumption); have q381 : x10_2 < (x8_2.length : Int) := of_decide_eq_true (by first | (with_reducible assumption) | assumption); obtain ⟨ad381, e381, hx381_0, hx381_1⟩ := at_T28 (Kd.R_reads' HO_8.out).2.2 x10_2 p381 q381; obtain rfl : ad377 = ad381 := (by injection e381); replace p381 := eq_true p381; replace q381 := eq_true q381))
           repeat (go_quiet (first | (go_at_call 35; (with_reducible refine (berthref02_Get.calls k2 _ _ l0 ((rd_T28 x8_2 x10_2).f0) t378 _ ?side1 ?side2 A16.out).mono ?_); (case side1 => repeat (first | exact (Kd.C_below HR0.out HB.out) | (with_reducible refine Kd.C_alloc ?_ _) | (with_reducible refine Kd.C_drewN ?_ _) | (with_reducible refine Kd.C_drew ?_))); (case side2 => exact HC0.out); rintro e w' ⟨rfl, ⟨nd, rfl⟩⟩; (try first | exact ⟨rfl, _, World.drewN_drewN _ _ _⟩ | exact ⟨rfl, _, Eq.trans (World.drewN_drewN _ _ _) (congrArg (World.drewN _) (Nat.add_assoc _ _ _))⟩); have p379 : 0 ≤ (x10_2 : Int) := of_decide_eq_true (by first | (with_reducible assumption) | assumption); have q379 : x10_2 < (x8_2.length : Int) := of_decide_eq_true (by first | (with_reducible assumption) | assumption); obtain ⟨ad379, e379, hx379_0, hx379_1⟩ := at_T28 (Kd.R_reads' HO_8.out).2.2 x10_2 p379 q379; obtain rfl : ad377 = ad379 := (by injection e379); replace p379 := eq_true p379; replace q379 := eq_true q379) | (go_at_call 35; (with_reducible refine (berthref02_Get.calls k2 _ _ l1 ((rd_T28 x8_2 x10_2).f0) t380 _ ?side1 ?side2 A17.out).mono ?_); (case side1 => repeat (first | exact (Kd.C_below HR1.out (by repeat (first | (with_reducible first | exact HB.out | apply below_alloc | apply pw_below_drewN | apply below_drew1) | exact HB.out))) | (with_reducible refine Kd.C_alloc ?_ _) | (with_reducible refine Kd.C_drewN ?_ _) | (with_reducible refine Kd.C_drew ?_))); (case side2 => exact HC1.out); rintro e w' ⟨rfl, ⟨nd, rfl⟩⟩; (try first | exact ⟨rfl, _, World.drewN_drewN _ _ _⟩ | exact ⟨rfl, _, Eq.trans (World.drewN_drewN _ _ _) (congrArg (World.drewN _) (Nat.add_assoc _ _ _))⟩); have p381 : 0 ≤ (x10_2 : Int) := of_decide_eq_true (by first | (with_reducible assumption) | assumption); have q381 : x10_2 < (x8_2.length : Int) := of_decide_eq_true (by first | (with_reducible assumption) | assumption); obtain ⟨ad381, e381, hx381_0, hx381_1⟩ := at_T28 (Kd.R_reads' HO_8.out).2.2 x10_2 p381 q381; obtain rfl : ad377 = ad381 := (by injection e381); replace p381 := eq_true p381; replace q381 := eq_true q381)); try go_wp2_with (first | (go_at_call 35; (with_reducible refine (berthref02_Get.calls k2 _ _ l0 ((rd_T28 x8_2 x10_2).f0) t378 _ ?side1 ?side2 A16.out).mono ?_); (case side1 => repeat (first | exact (Kd.C_below HR0.out HB.out) | (with_reducible refine Kd.C_alloc ?_ _) | (with_reducible refine Kd.C_drewN ?_ _) | (with_reducible refine Kd.C_drew ?_))); (case side2 => exact HC0.out); rintro e w' ⟨rfl, ⟨nd, rfl⟩⟩; (try first | exact ⟨rfl, _, World.drewN_drewN _ _ _⟩ | exact ⟨rfl, _, Eq.trans (World.drewN_drewN _ _ _) (congrArg (World.drewN _) (Nat.add_assoc _ _ _))⟩); have p379 : 0 ≤ (x10_2 : Int) := of_decide_eq_true (by first | (with_reducible assumption) | assumption); have q379 : x10_2 < (x8_2.length : Int) := of_decide_eq_true (by first | (with_reducible assumption) | assumption); obtain ⟨ad379, e379, hx379_0, hx379_1⟩ := at_T28 (Kd.R_reads' HO_8.out).2.2 x10_2 p379 q379; obtain rfl : ad377 = ad379 := (by injection e379); replace p379 := eq_true p379; replace q379 := eq_true q379) | (go_at_call 35; (with_reducible refine (berthref02_Get.calls k2 _ _ l1 ((rd_T28 x8_2 x10_2).f0) t380 _ ?side1 ?side2 A17.out).mono ?_); (case side1 => repeat (first | exact (Kd.C_below HR1.out (by repeat (first | (with_reducible first | exact HB.out | apply below_alloc | apply pw_below_drewN | apply below_drew1) | exact HB.out))) | (with_reducible refine Kd.C_alloc ?_ _) | (with_reducible refine Kd.C_drewN ?_ _) | (with_reducible refine Kd.C_drew ?_))); (case side2 => exact HC1.out); rintro e w' ⟨rfl, ⟨nd, rfl⟩⟩; (try first | exact ⟨rfl, _, World.drewN_drewN _ _ _⟩ | exact ⟨rfl, _, Eq.trans (World.drewN_drewN _ _ _) (congrArg (World.drewN _) (Nat.add_assoc _ _ _))⟩); have p381 : 0 ≤ (x10_2 : Int) := of_decide_eq_true (by first | (with_reducible assumption) | assumption); have q381 : x10_2 < (x8_2.length : Int) := of_decide_eq_true (by first | (with_reducible assumption) | assumption); obtain ⟨ad381, e381, hx381_0, hx381_1⟩ := at_T28 (Kd.R_reads' HO_8.out).2.2 x10_2 p381 q381; obtain rfl : ad377 = ad381 := (by injection e381); replace p381 := eq_true p381; replace q381 := eq_true q381)))
           (try simp only [← hl8_2])
           go_roundg k2
           case measure => have := HJ3.out; have := HK2.out; omega
           case rel => exact ⟨(x8_2), ((rd_T28 x8_2 x10_2).f0), (wrap64 (x10_2 + 1)), (by first | rfl | (simp; done) | (simp [*]; done) | (simp only [i64_w]; done) | (simp [i64_w, Int.tdiv_eq_ediv_of_nonneg]; done)), (by first | rfl | (simp; done) | (simp [*]; done) | (simp only [i64_w]; done) | (simp [i64_w, Int.tdiv_eq_ediv_of_nonneg]; done)), H', ⟨by have := HJ3.out; have := HK2.out; omega⟩, ⟨by (try simp only [hl8_2]); (with_reducible repeat (first | apply Kd.R_alloc | apply Kd.R_drewN | apply Kd.R_drew)); exact HO_8.out⟩, ⟨by repeat (first | (with_reducible first | exact HB.out | apply below_alloc | apply pw_below_drewN | apply below_drew1) | exact HB.out)⟩⟩
          ·
           rw [if_neg c19] at H
           have c19b0 : (x9_2.toList == ([] : List UInt8)) = false := beq_eq_false_iff_ne.mpr c19
           have c19b1 : (x9_2.toList != ([] : List UInt8)) = true := bne_iff_ne.mpr c19
           by_cases c20 : (Op.bytesLess (((rd_T28 x8_2 x10_2).f0).toList) x9_2.toList) = true
           ·
            rw [if_pos c20] at H
            have c20b0 : (Op.bytesLess (((rd_T28 x8_2 x10_2).f0).toList) x9_2.toList) = true := c20
            clear c20
            have H' := Aside0.mk H
            clear H
            have p377 : 0 ≤ (x10_2 : Int) := of_decide_eq_true (by first | (with_reducible assumption) | assumption)
            have q377 : x10_2 < (x8_2.length : Int) := of_decide_eq_true (by first | (with_reducible assumption) | assumption)
            obtain ⟨ad377, e377, hx377_0, hx377_1⟩ := at_T28 (Kd.R_reads' HO_8.out).2.2 x10_2 p377 q377
            cases e377
            replace p377 := eq_true p377
            replace q377 := eq_true q377
            go_wp2_with (first | (go_at_call 35; (with_reducible refine (berthref02_Get.calls k2 _ _ l0 ((rd_T28 x8_2 x10_2).f0) t378 _ ?side1 ?side2 A16.out).mono ?_); (case side1 => repeat (first | exact (Kd.C_below HR0.out HB.out) | (with_reducible refine Kd.C_alloc ?_ _) | (with_reducible refine Kd.C_drewN ?_ _) | (with_reducible refine Kd.C_drew ?_))); (case side2 => exact HC0.out); rintro e w' ⟨rfl, ⟨nd, rfl⟩⟩; (try first | exact ⟨rfl, _, World.drewN_drewN _ _ _⟩ | exact ⟨rfl, _, Eq.trans (World.drewN_drewN _ _ _) (congrArg (World.drewN _) (Nat.add_assoc _ _ _))⟩); have p379 : 0 ≤ (x10_2 : Int) := of_decide_eq_true (by first | (with_reducible assumption) | assumption); have q379 : x10_2 < (x8_2.length : Int) := of_decide_eq_true (by first | (with_reducible assumption) | assumption); obtain ⟨ad379, e379, hx379_0, hx379_1⟩ := at_T28 (Kd.R_reads' HO_8.out).2.2 x10_2 p379 q379; obtain rfl : ad377 = ad379 := (by injection e379); replace p379 := eq_true p379; replace q379 := eq_true q379) | (go_at_call 35; (with_reducible refine (berthref02_Get.calls k2 _ _ l1 ((rd_T28 x8_2 x10_2).f0) t380 _ ?side1 ?side2 A17.out).mono ?_); (case side1 => repeat (first | exact (Kd.C_below HR1.out (by repeat (first | (with_reducible first | exact HB.out | apply below_alloc | apply pw_below_drewN | apply below_drew1) | exact HB.out))) | (with_reducible refine Kd.C_alloc ?_ _) | (with_reducible refine Kd.C_drewN ?_ _) | (with_reducible refine Kd.C_drew ?_))); (case side2 => exact HC1.out); rintro e w' ⟨rfl, ⟨nd, rfl⟩⟩; (try first | exact ⟨rfl, _, World.drewN_drewN _ _ _⟩ | exact ⟨rfl, _, Eq.trans (World.drewN_drewN _ _ _) (congrArg (World.drewN _) (Nat.add_assoc _ _ _))⟩); have p382 : 0 ≤ (x10_2 : Int) := of_decide_eq_true (by first | (with_reducible assumption) | assumption); have q382 : x10_2 < (x8_2.length : Int) := of_decide_eq_true (by first | (with_reducible assumption) | assumption); obtain ⟨ad382, e382, hx382_0, hx382_1⟩ := at_T28 (Kd.R_reads' HO_8.out).2.2 x10_2 p382 q382; obtain rfl : ad377 = ad382 := (by injection e382); replace p382 := eq_true p382; replace q382 := eq_true q382; have p383 : 0 ≤ (x10_2 : Int) := of_decide_eq_true (by first | (with_reducible assumption) | assumption); have q383 : x10_2 < (x8_2.length : Int) := of_decide_eq_true (by first | (with_reducible assumption) | assumption); obtain ⟨ad383, e383, hx383_0, hx383_1⟩ := at_T28 (Kd.R_reads' HO_8.out).2.2 x10_2 p383 q383; obtain rfl : ad377 = ad383 := (by injection e383); replace p383 := eq_true p383; replace q383 := eq_true q383))
            repeat (go_quiet (first | (go_at_call 35; (with_reducible refine (berthref02_Get.calls k2 _ _ l0 ((rd_T28 x8_2 x10_2).f0) t378 _ ?side1 ?side2 A16.out).mono ?_); (case side1 => repeat (first | exact (Kd.C_below HR0.out HB.out) | (with_reducible refine Kd.C_alloc ?_ _) | (with_reducible refine Kd.C_drewN ?_ _) | (with_reducible refine Kd.C_drew ?_))); (case side2 => exact HC0.out); rintro e w' ⟨rfl, ⟨nd, rfl⟩⟩; (try first | exact ⟨rfl, _, World.drewN_drewN _ _ _⟩ | exact ⟨rfl, _, Eq.trans (World.drewN_drewN _ _ _) (congrArg (World.drewN _) (Nat.add_assoc _ _ _))⟩); have p379 : 0 ≤ (x10_2 : Int) := of_decide_eq_true (by first | (with_reducible assumption) | assumption); have q379 : x10_2 < (x8_2.length : Int) := of_decide_eq_true (by first | (with_reducible assumption) | assumption); obtain ⟨ad379, e379, hx379_0, hx379_1⟩ := at_T28 (Kd.R_reads' HO_8.out).2.2 x10_2 p379 q379; obtain rfl : ad377 = ad379 := (by injection e379); replace p379 := eq_true p379; replace q379 := eq_true q379) | (go_at_call 35; (with_reducible refine (berthref02_Get.calls k2 _ _ l1 ((rd_T28 x8_2 x10_2).f0) t380 _ ?side1 ?side2 A17.out).mono ?_); (case side1 => repeat (first | exact (Kd.C_below HR1.out (by repeat (first | (with_reducible first | exact HB.out | apply below_alloc | apply pw_below_drewN | apply below_drew1) | exact HB.out))) | (with_reducible refine Kd.C_alloc ?_ _) | (with_reducible refine Kd.C_drewN ?_ _) | (with_reducible refine Kd.C_drew ?_))); (case side2 => exact HC1.out); rintro e w' ⟨rfl, ⟨nd, rfl⟩⟩; (try first | exact ⟨rfl, _, World.drewN_drewN _ _ _⟩ | exact ⟨rfl, _, Eq.trans (World.drewN_drewN _ _ _) (congrArg (World.drewN _) (Nat.add_assoc _ _ _))⟩); have p382 : 0 ≤ (x10_2 : Int) := of_decide_eq_true (by first | (with_reducible assumption) | assumption); have q382 : x10_2 < (x8_2.length : Int) := of_decide_eq_true (by first | (with_reducible assumption) | assumption); obtain ⟨ad382, e382, hx382_0, hx382_1⟩ := at_T28 (Kd.R_reads' HO_8.out).2.2 x10_2 p382 q382; obtain rfl : ad377 = ad382 := (by injection e382); replace p382 := eq_true p382; replace q382 := eq_true q382; have p383 : 0 ≤ (x10_2 : Int) := of_decide_eq_true (by first | (with_reducible assumption) | assumption); have q383 : x10_2 < (x8_2.length : Int) := of_decide_eq_true (by first | (with_reducible assumption) | assumption); obtain ⟨ad383, e383, hx383_0, hx383_1⟩ := at_T28 (Kd.R_reads' HO_8.out).2.2 x10_2 p383 q383; obtain rfl : ad377 = ad383 := (by injection e383); replace p383 := eq_true p383; replace q383 := eq_true q383)); try go_wp2_with (first | (go_at_call 35; (with_reducible refine (berthref02_Get.calls k2 _ _ l0 ((rd_T28 x8_2 x10_2).f0) t378 _ ?side1 ?side2 A16.out).mono ?_); (case side1 => repeat (first | exact (Kd.C_below HR0.out HB.out) | (with_reducible refine Kd.C_alloc ?_ _) | (with_reducible refine Kd.C_drewN ?_ _) | (with_reducible refine Kd.C_drew ?_))); (case side2 => exact HC0.out); rintro e w' ⟨rfl, ⟨nd, rfl⟩⟩; (try first | exact ⟨rfl, _, World.drewN_drewN _ _ _⟩ | exact ⟨rfl, _, Eq.trans (World.drewN_drewN _ _ _) (congrArg (World.drewN _) (Nat.add_assoc _ _ _))⟩); have p379 : 0 ≤ (x10_2 : Int) := of_decide_eq_true (by first | (with_reducible assumption) | assumption); have q379 : x10_2 < (x8_2.length : Int) := of_decide_eq_true (by first | (with_reducible assumption) | assumption); obtain ⟨ad379, e379, hx379_0, hx379_1⟩ := at_T28 (Kd.R_reads' HO_8.out).2.2 x10_2 p379 q379; obtain rfl : ad377 = ad379 := (by injection e379); replace p379 := eq_true p379; replace q379 := eq_true q379) | (go_at_call 35; (with_reducible refine (berthref02_Get.calls k2 _ _ l1 ((rd_T28 x8_2 x10_2).f0) t380 _ ?side1 ?side2 A17.out).mono ?_); (case side1 => repeat (first | exact (Kd.C_below HR1.out (by repeat (first | (with_reducible first | exact HB.out | apply below_alloc | apply pw_below_drewN | apply below_drew1) | exact HB.out))) | (with_reducible refine Kd.C_alloc ?_ _) | (with_reducible refine Kd.C_drewN ?_ _) | (with_reducible refine Kd.C_drew ?_))); (case side2 => exact HC1.out); rintro e w' ⟨rfl, ⟨nd, rfl⟩⟩; (try first | exact ⟨rfl, _, World.drewN_drewN _ _ _⟩ | exact ⟨rfl, _, Eq.trans (World.drewN_drewN _ _ _) (congrArg (World.drewN _) (Nat.add_assoc _ _ _))⟩); have p382 : 0 ≤ (x10_2 : Int) := of_decide_eq_true (by first | (with_reducible assumption) | assumption); have q382 : x10_2 < (x8_2.length : Int) := of_decide_eq_true (by first | (with_reducible assumption) | assumption); obtain ⟨ad382, e382, hx382_0, hx382_1⟩ := at_T28 (Kd.R_reads' HO_8.out).2.2 x10_2 p382 q382; obtain rfl : ad377 = ad382 := (by injection e382); replace p382 := eq_true p382; replace q382 := eq_true q382; have p383 : 0 ≤ (x10_2 : Int) := of_decide_eq_true (by first | (with_reducible assumption) | assumption); have q383 : x10_2 < (x8_2.length : Int) := of_decide_eq_true (by first | (with_reducible assumption) | assumption); obtain ⟨ad383, e383, hx383_0, hx383_1⟩ := at_T28 (Kd.R_reads' HO_8.out).2.2 x10_2 p383 q383; obtain rfl : ad377 = ad383 := (by injection e383); replace p383 := eq_true p383; replace q383 := eq_true q383)))
            (try simp only [← hl8_2])
            go_roundg k2
            case measure => have := HJ3.out; have := HK2.out; omega
            case rel => exact ⟨(x8_2), ((rd_T28 x8_2 x10_2).f0), (wrap64 (x10_2 + 1)), (by first | rfl | (simp; done) | (simp [*]; done) | (simp only [i64_w]; done) | (simp [i64_w, Int.tdiv_eq_ediv_of_nonneg]; done)), (by first | rfl | (simp; done) | (simp [*]; done) | (simp only [i64_w]; done) | (simp [i64_w, Int.tdiv_eq_ediv_of_nonneg]; done)), H', ⟨by have := HJ3.out; have := HK2.out; omega⟩, ⟨by (try simp only [hl8_2]); (with_reducible repeat (first | apply Kd.R_alloc | apply Kd.R_drewN | apply Kd.R_drew)); exact HO_8.out⟩, ⟨by repeat (first | (with_reducible first | exact HB.out | apply below_alloc | apply pw_below_drewN | apply below_drew1) | exact HB.out)⟩⟩
           ·
            rw [if_neg c20] at H
            have c20b0 : (Op.bytesLess (((rd_T28 x8_2 x10_2).f0).toList) x9_2.toList) = false := by simpa using c20
            clear c20
            have H' := Aside0.mk H
            clear H
            have p377 : 0 ≤ (x10_2 : Int) := of_decide_eq_true (by first | (with_reducible assumption) | assumption)
            have q377 : x10_2 < (x8_2.length : Int) := of_decide_eq_true (by first | (with_reducible assumption) | assumption)
            obtain ⟨ad377, e377, hx377_0, hx377_1⟩ := at_T28 (Kd.R_reads' HO_8.out).2.2 x10_2 p377 q377
            cases e377
            replace p377 := eq_true p377
            replace q377 := eq_true q377
            go_wp2_with (first | (go_at_call 35; (with_reducible refine (berthref02_Get.calls k2 _ _ l0 ((rd_T28 x8_2 x10_2).f0) t378 _ ?side1 ?side2 A16.out).mono ?_); (case side1 => repeat (first | exact (Kd.C_below HR0.out HB.out) | (with_reducible refine Kd.C_alloc ?_ _) | (with_reducible refine Kd.C_drewN ?_ _) | (with_reducible refine Kd.C_drew ?_))); (case side2 => exact HC0.out); rintro e w' ⟨rfl, ⟨nd, rfl⟩⟩; (try first | exact ⟨rfl, _, World.drewN_drewN _ _ _⟩ | exact ⟨rfl, _, Eq.trans (World.drewN_drewN _ _ _) (congrArg (World.drewN _) (Nat.add_assoc _ _ _))⟩); have p379 : 0 ≤ (x10_2 : Int) := of_decide_eq_true (by first | (with_reducible assumption) | assumption); have q379 : x10_2 < (x8_2.length : Int) := of_decide_eq_true (by first | (with_reducible assumption) | assumption); obtain ⟨ad379, e379, hx379_0, hx379_1⟩ := at_T28 (Kd.R_reads' HO_8.out).2.2 x10_2 p379 q379; obtain rfl : ad377 = ad379 := (by injection e379); replace p379 := eq_true p379; replace q379 := eq_true q379) | (go_at_call 35; (with_reducible refine (berthref02_Get.calls k2 _ _ l1 ((rd_T28 x8_2 x10_2).f0) t380 _ ?side1 ?side2 A17.out).mono ?_); (case side1 => repeat (first | exact (Kd.C_below HR1.out (by repeat (first | (with_reducible first | exact HB.out | apply below_alloc | apply pw_below_drewN | apply below_drew1) | exact HB.out))) | (with_reducible refine Kd.C_alloc ?_ _) | (with_reducible refine Kd.C_drewN ?_ _) | (with_reducible refine Kd.C_drew ?_))); (case side2 => exact HC1.out); rintro e w' ⟨rfl, ⟨nd, rfl⟩⟩; (try first | exact ⟨rfl, _, World.drewN_drewN _ _ _⟩ | exact ⟨rfl, _, Eq.trans (World.drewN_drewN _ _ _) (congrArg (World.drewN _) (Nat.add_assoc _ _ _))⟩); have p382 : 0 ≤ (x10_2 : Int) := of_decide_eq_true (by first | (with_reducible assumption) | assumption); have q382 : x10_2 < (x8_2.length : Int) := of_decide_eq_true (by first | (with_reducible assumption) | assumption); obtain ⟨ad382, e382, hx382_0, hx382_1⟩ := at_T28 (Kd.R_reads' HO_8.out).2.2 x10_2 p382 q382; obtain rfl : ad377 = ad382 := (by injection e382); replace p382 := eq_true p382; replace q382 := eq_true q382))
            repeat (go_quiet (first | (go_at_call 35; (with_reducible refine (berthref02_Get.calls k2 _ _ l0 ((rd_T28 x8_2 x10_2).f0) t378 _ ?side1 ?side2 A16.out).mono ?_); (case side1 => repeat (first | exact (Kd.C_below HR0.out HB.out) | (with_reducible refine Kd.C_alloc ?_ _) | (with_reducible refine Kd.C_drewN ?_ _) | (with_reducible refine Kd.C_drew ?_))); (case side2 => exact HC0.out); rintro e w' ⟨rfl, ⟨nd, rfl⟩⟩; (try first | exact ⟨rfl, _, World.drewN_drewN _ _ _⟩ | exact ⟨rfl, _, Eq.trans (World.drewN_drewN _ _ _) (congrArg (World.drewN _) (Nat.add_assoc _ _ _))⟩); have p379 : 0 ≤ (x10_2 : Int) := of_decide_eq_true (by first | (with_reducible assumption) | assumption); have q379 : x10_2 < (x8_2.length : Int) := of_decide_eq_true (by first | (with_reducible assumption) | assumption); obtain ⟨ad379, e379, hx379_0, hx379_1⟩ := at_T28 (Kd.R_reads' HO_8.out).2.2 x10_2 p379 q379; obtain rfl : ad377 = ad379 := (by injection e379); replace p379 := eq_true p379; replace q379 := eq_true q379) | (go_at_call 35; (with_reducible refine (berthref02_Get.calls k2 _ _ l1 ((rd_T28 x8_2 x10_2).f0) t380 _ ?side1 ?side2 A17.out).mono ?_); (case side1 => repeat (first | exact (Kd.C_below HR1.out (by repeat (first | (with_reducible first | exact HB.out | apply below_alloc | apply pw_below_drewN | apply below_drew1) | exact HB.out))) | (with_reducible refine Kd.C_alloc ?_ _) | (with_reducible refine Kd.C_drewN ?_ _) | (with_reducible refine Kd.C_drew ?_))); (case side2 => exact HC1.out); rintro e w' ⟨rfl, ⟨nd, rfl⟩⟩; (try first | exact ⟨rfl, _, World.drewN_drewN _ _ _⟩ | exact ⟨rfl, _, Eq.trans (World.drewN_drewN _ _ _) (congrArg (World.drewN _) (Nat.add_assoc _ _ _))⟩); have p382 : 0 ≤ (x10_2 : Int) := of_decide_eq_true (by first | (with_reducible assumption) | assumption); have q382 : x10_2 < (x8_2.length : Int) := of_decide_eq_true (by first | (with_reducible assumption) | assumption); obtain ⟨ad382, e382, hx382_0, hx382_1⟩ := at_T28 (Kd.R_reads' HO_8.out).2.2 x10_2 p382 q382; obtain rfl : ad377 = ad382 := (by injection e382); replace p382 := eq_true p382; replace q382 := eq_true q382)); try go_wp2_with (first | (go_at_call 35; (with_reducible refine (berthref02_Get.calls k2 _ _ l0 ((rd_T28 x8_2 x10_2).f0) t378 _ ?side1 ?side2 A16.out).mono ?_); (case side1 => repeat (first | exact (Kd.C_below HR0.out HB.out) | (with_reducible refine Kd.C_alloc ?_ _) | (with_reducible refine Kd.C_drewN ?_ _) | (with_reducible refine Kd.C_drew ?_))); (case side2 => exact HC0.out); rintro e w' ⟨rfl, ⟨nd, rfl⟩⟩; (try first | exact ⟨rfl, _, World.drewN_drewN _ _ _⟩ | exact ⟨rfl, _, Eq.trans (World.drewN_drewN _ _ _) (congrArg (World.drewN _) (Nat.add_assoc _ _ _))⟩); have p379 : 0 ≤ (x10_2 : Int) := of_decide_eq_true (by first | (with_reducible assumption) | assumption); have q379 : x10_2 < (x8_2.length : Int) := of_decide_eq_true (by first | (with_reducible assumption) | assumption); obtain ⟨ad379, e379, hx379_0, hx379_1⟩ := at_T28 (Kd.R_reads' HO_8.out).2.2 x10_2 p379 q379; obtain rfl : ad377 = ad379 := (by injection e379); replace p379 := eq_true p379; replace q379 := eq_true q379) | (go_at_call 35; (with_reducible refine (berthref02_Get.calls k2 _ _ l1 ((rd_T28 x8_2 x10_2).f0) t380 _ ?side1 ?side2 A17.out).mono ?_); (case side1 => repeat (first | exact (Kd.C_below HR1.out (by repeat (first | (with_reducible first | exact HB.out | apply below_alloc | apply pw_below_drewN | apply below_drew1) | exact HB.out))) | (with_reducible refine Kd.C_alloc ?_ _) | (with_reducible refine Kd.C_drewN ?_ _) | (with_reducible refine Kd.C_drew ?_))); (case side2 => exact HC1.out); rintro e w' ⟨rfl, ⟨nd, rfl⟩⟩; (try first | exact ⟨rfl, _, World.drewN_drewN _ _ _⟩ | exact ⟨rfl, _, Eq.trans (World.drewN_drewN _ _ _) (congrArg (World.drewN _) (Nat.add_assoc _ _ _))⟩); have p382 : 0 ≤ (x10_2 : Int) := of_decide_eq_true (by first | (with_reducible assumption) | assumption); have q382 : x10_2 < (x8_2.length : Int) := of_decide_eq_true (by first | (with_reducible assumption) | assumption); obtain ⟨ad382, e382, hx382_0, hx382_1⟩ := at_T28 (Kd.R_reads' HO_8.out).2.2 x10_2 p382 q382; obtain rfl : ad377 = ad382 := (by injection e382); replace p382 := eq_true p382; replace q382 := eq_true q382)))
            (try simp only [← hl8_2])
            go_roundg k2
            case measure => have := HJ3.out; have := HK2.out; omega
            case rel => exact ⟨(x8_2), (x9_2), (wrap64 (x10_2 + 1)), (by first | rfl | (simp; done) | (simp [*]; done) | (simp only [i64_w]; done) | (simp [i64_w, Int.tdiv_eq_ediv_of_nonneg]; done)), (by first | rfl | (simp; done) | (simp [*]; done) | (simp only [i64_w]; done) | (simp [i64_w, Int.tdiv_eq_ediv_of_nonneg]; done)), H', ⟨by have := HJ3.out; have := HK2.out; omega⟩, ⟨by (try simp only [hl8_2]); (with_reducible repeat (first | apply Kd.R_alloc | apply Kd.R_drewN | apply Kd.R_drew)); exact HO_8.out⟩, ⟨by repeat (first | (with_reducible first | exact HB.out | apply below_alloc | apply pw_below_drewN | apply below_drew1) | exact HB.out)⟩⟩
         ·
          rw [if_neg c18] at H
          have c18b0 : decide ((wrap64 (9223372036854775807 - t380)) < t378) = false := decide_eq_false c18
          (try (have c18b1 : decide ((IntKind.i64.wrap (9223372036854775807 - t380)) < t378) = false := by have h_ : decide ((wrap64 (9223372036854775807 - t380)) < t378) = false := decide_eq_false c18; simp only [i64_w]; exact h_))
          clear c18
          obtain ⟨y384, hy384⟩ : ∃ y_ : List (S28), y_ = (x8_2.set (x10_2 : Int).toNat (⟨(rd_T28 x8_2 x10_2).f0, wrap64 (t378 + t380)⟩ : S28)) := ⟨_, rfl⟩
          replace H : (berthref02_Add.l0 k2 l0 l1 y384 x9_2 (wrap64 (x10_2 + 1))) = some (r1, r2, r3) := by first | (rw [hy384]; with_reducible exact H) | (have H2_ := (Option.bind_some _ _).symm.trans H; rw [hy384]; with_reducible exact H2_) | (have H2_ := (Option.bind_some _ _).symm.trans H; with_reducible exact H2_) | with_reducible exact H | (rw [hy384]; exact H) | exact H
          have Ny384 := Aside0.mk hy384
          clear hy384
          have H' := Aside0.mk H
          clear H
          have p377 : 0 ≤ (x10_2 : Int) := of_decide_eq_true (by first | (with_reducible assumption) | assumption)
          have q377 : x10_2 < (x8_2.length : Int) := of_decide_eq_true (by first | (with_reducible assumption) | assumption)
          obtain ⟨ad377, e377, hx377_0, hx377_1⟩ := at_T28 (Kd.R_reads' HO_8.out).2.2 x10_2 p377 q377
          cases e377
          replace p377 := eq_true p377
          replace q377 := eq_true q377
          go_wp2_with (first | (go_at_call 35; (with_reducible refine (berthref02_Get.calls k2 _ _ l0 ((rd_T28 x8_2 x10_2).f0) t378 _ ?side1 ?side2 A16.out).mono ?_); (case side1 => repeat (first | exact (Kd.C_below HR0.out HB.out) | (with_reducible refine Kd.C_alloc ?_ _) | (with_reducible refine Kd.C_drewN ?_ _) | (with_reducible refine Kd.C_drew ?_))); (case side2 => exact HC0.out); rintro e w' ⟨rfl, ⟨nd, rfl⟩⟩; (try first | exact ⟨rfl, _, World.drewN_drewN _ _ _⟩ | exact ⟨rfl, _, Eq.trans (World.drewN_drewN _ _ _) (congrArg (World.drewN _) (Nat.add_assoc _ _ _))⟩); have p379 : 0 ≤ (x10_2 : Int) := of_decide_eq_true (by first | (with_reducible assumption) | assumption); have q379 : x10_2 < (x8_2.length : Int) := of_decide_eq_true (by first | (with_reducible assumption) | assumption); obtain ⟨ad379, e379, hx379_0, hx379_1⟩ := at_T28 (Kd.R_reads' HO_8.out).2.2 x10_2 p379 q379; obtain rfl : ad377 = ad379 := (by injection e379); replace p379 := eq_true p379; replace q379 := eq_true q379) | (go_at_call 35; (with_reducible refine (berthref02_Get.calls k2 _ _ l1 ((rd_T28 x8_2 x10_2).f0) t380 _ ?side1 ?side2 A17.out).mono ?_); (case side1 => repeat (first | exact (Kd.C_below HR1.out (by repeat (first | (with_reducible first | exact HB.out | apply below_alloc | apply pw_below_drewN | apply below_drew1) | exact HB.out))) | (with_reducible refine Kd.C_alloc ?_ _) | (with_reducible refine Kd.C_drewN ?_ _) | (with_reducible refine Kd.C_drew ?_))); (case side2 => exact HC1.out); rintro e w' ⟨rfl, ⟨nd, rfl⟩⟩; (try first | exact ⟨rfl, _, World.drewN_drewN _ _ _⟩ | exact ⟨rfl, _, Eq.trans (World.drewN_drewN _ _ _) (congrArg (World.drewN _) (Nat.add_assoc _ _ _))⟩); have p21 : 0 ≤ (x10_2 : Int) := of_decide_eq_true (by first | (with_reducible assumption) | assumption); have q21 : (x10_2 : Int) < ((x8_2.length : Int) : Int) := of_decide_eq_true (by first | (with_reducible assumption) | assumption); obtain ⟨go21, co21, eo21, gb21, gl21, cl21, HG21⟩ := Kd.R_form HO_8.out (by omega); (first | cases eo21 | (injection eo21 with ea_ en_ ec_; (first | subst ea_ | (injection ea_ with ea_; subst ea_)); subst ec_; clear en_)); have GB21 := Aside0.mk gb21; have GG21 := Aside0.mk HG21; clear gb21 gl21 HG21; (first | simp only [add_plain] at hx377_0 | skip); (first | simp only [add_plain] at hx377_1 | skip); (first | simp only [add_plain] at hx379_0 | skip); (first | simp only [add_plain] at hx379_1 | skip); (first | simp only [add_plain] at hx381_0 | skip); (first | simp only [add_plain] at hx381_1 | skip); (first | simp only [add_plain] at hx382_0 | skip); (first | simp only [add_plain] at hx382_1 | skip); (first | simp only [add_plain] at hx383_0 | skip); (first | simp only [add_plain] at hx383_1 | skip); obtain ⟨ce21, hcl21, hM21, hcc21, hfr21⟩ := Kd.R_elem HO_8.out z28 (x10_2 : Int) p21 q21; obtain rfl := k28_openM hM21; have hx21_0 : wr.cell? ⟨go21, (x10_2 : Int).toNat * 2, none⟩ = some (.string ((rd_T28 x8_2 x10_2).f0)) := hcc21 0 _ rfl; have hx21_1 : wr.cell? ⟨go21, (x10_2 : Int).toNat * 2 + 1, none⟩ = some (.int .i64 ((rd_T28 x8_2 x10_2).f1)) := hcc21 1 _ rfl; have hf21_0 : wr.frozen? ⟨go21, (x10_2 : Int).toNat * 2, none⟩ = false := hfr21 0; have hf21_1 : wr.frozen? ⟨go21, (x10_2 : Int).toNat * 2 + 1, none⟩ = false := hfr21 1; clear hcl21 hcc21 hfr21 hM21; replace p21 := eq_true p21; replace q21 := eq_true q21; have HX22 := Aside0.mk (show Kd.R k28 28 wr w.heap.size (fun _ => True) (.slice (some ⟨go21, 0, none⟩) x8_2.length co13) x8_2 from (by (with_reducible repeat (first | apply Kd.R_alloc | apply Kd.R_drewN | apply Kd.R_drew)); exact HO_8.out)); obtain ⟨ce22, hcl22, hM22, hcc22, hfr22⟩ := Kd.R_elem HX22.out z28 (x10_2 : Int) (of_decide_eq_true (by first | (with_reducible assumption) | assumption)) (by have h_ : (x10_2 : Int) < ((x8_2.length : Int) : Int) := of_decide_eq_true (by first | (with_reducible assumption) | assumption); first | exact h_ | (have e_ := (Kd.R_reads' HO_8.out).1; omega) | simpa using h_); obtain rfl := k28_openM hM22; have HP22 := Kd.R_seg HX22.out (x10_2 : Int) (of_decide_eq_true (by first | (with_reducible assumption) | assumption)) (by have h_ : (x10_2 : Int) < ((x8_2.length : Int) : Int) := of_decide_eq_true (by first | (with_reducible assumption) | assumption); first | exact h_ | (have e_ := (Kd.R_reads' HO_8.out).1; omega) | simpa using h_) (seg := [.int .i64 (wrap64 (t378 + t380))]) (j := 1) hcl22 hcc22 (show 2 ≤ 2 from by decide) (x' := (⟨(rd_T28 x8_2 x10_2).f0, wrap64 (t378 + t380)⟩ : S28)) (k28_mkM _ _ _ (⟨(rd_T28 x8_2 x10_2).f0, wrap64 (t378 + t380)⟩ : S28) ) (fun _ hk => hk); have hx22_1 := hcc22 1 _ rfl; (try simp only [show (k28).sz = 2 from rfl, Nat.mul_one, Nat.add_zero] at hx22_1); have hf22_1 := hfr22 1; (try simp only [show (k28).sz = 2 from rfl, Nat.mul_one, Nat.add_zero] at hf22_1); clear hcl22 hcc22 hfr22 hM22) | ((with_reducible refine gate_store (t := 3) (p := 74) rfl ?_); (try (rw [drewN_self wr]; generalize hq_ : World.drewN wr _ = wr; have n0_ := Aside0.mk (Kd.R_at hq_ HO_8.out); have n1_ := Aside0.mk (below_at hq_ HB.out); clear hq_ HO_8 HB; have HO_8 := n0_; have HB := n1_; clear n0_ n1_; (try (have HX22 := Aside0.mk (show Kd.R k28 28 wr w.heap.size (fun _ => True) (.slice (some ⟨go21, 0, none⟩) x8_2.length co13) x8_2 from (by (with_reducible repeat (first | apply Kd.R_alloc | apply Kd.R_drewN | apply Kd.R_drew)); exact HO_8.out)))); (try (obtain ⟨ce22, hcl22, hM22, hcc22, hfr22⟩ := Kd.R_elem HX22.out z28 (x10_2 : Int) (of_decide_eq_true (by first | (with_reducible assumption) | assumption)) (by have h_ : (x10_2 : Int) < ((x8_2.length : Int) : Int) := of_decide_eq_true (by first | (with_reducible assumption) | assumption); first | exact h_ | (have e_ := (Kd.R_reads' HO_8.out).1; omega) | simpa using h_))); (try (obtain rfl := k28_openM hM22)); (try (have HP22 := Kd.R_seg HX22.out (x10_2 : Int) (of_decide_eq_true (by first | (with_reducible assumption) | assumption)) (by have h_ : (x10_2 : Int) < ((x8_2.length : Int) : Int) := of_decide_eq_true (by first | (with_reducible assumption) | assumption); first | exact h_ | (have e_ := (Kd.R_reads' HO_8.out).1; omega) | simpa using h_) (seg := [.int .i64 (wrap64 (t378 + t380))]) (j := 1) hcl22 hcc22 (show 2 ≤ 2 from by decide) (x' := (⟨(rd_T28 x8_2 x10_2).f0, wrap64 (t378 + t380)⟩ : S28)) (k28_mkM _ _ _ (⟨(rd_T28 x8_2 x10_2).f0, wrap64 (t378 + t380)⟩ : S28) ) (fun _ hk => hk))); (try (have hx22_1 := hcc22 1 _ rfl)); (try (try simp only [show (k28).sz = 2 from rfl, Nat.mul_one, Nat.add_zero] at hx22_1)); (try (have hf22_1 := hfr22 1)); (try (try simp only [show (k28).sz = 2 from rfl, Nat.mul_one, Nat.add_zero] at hf22_1)); (try (clear hcl22 hcc22 hfr22 hM22)))); refine store_event (t := 3) (p := 74) (v := ?vo_w23) (w1 := (wr.setCell ⟨go21, (x10_2 : Int).toNat * 2 + 1, none⟩ (.int .i64 (wrap64 (t378 + t380))))) ?hg ?ho ?hn ?hr ?_; (case ho => rfl); (case hg => rfl); (case hn => rfl); (case hr => first | (go_simp; done) | (go_simp; rfl)); intro w23 hw; have hg : wr.grownBy w23 (some go21) := (by rw [hw]; exact HP22.2); have hp_ : Kd.R k28 28 w23 w.heap.size (fun _ => True) (.slice (some ⟨go21, 0, none⟩) x8_2.length co13) y384 := (by rw [hw, Ny384.out]; exact HP22.1); clear HP22; have n0_ := Aside0.mk (hp_); have n1_ := Aside0.mk ((by rw [hw]; exact below_set (HB.out) GB21.out : Below w.heap.size w w23)); clear HO_8; clear HB; have HO_8 := n0_; have HB := n1_; clear n0_ n1_; clear hg hw hp_))
          repeat (go_quiet (first | (go_at_call 35; (with_reducible refine (berthref02_Get.calls k2 _ _ l0 ((rd_T28 x8_2 x10_2).f0) t378 _ ?side1 ?side2 A16.out).mono ?_); (case side1 => repeat (first | exact (Kd.C_below HR0.out HB.out) | (with_reducible refine Kd.C_alloc ?_ _) | (with_reducible refine Kd.C_drewN ?_ _) | (with_reducible refine Kd.C_drew ?_))); (case side2 => exact HC0.out); rintro e w' ⟨rfl, ⟨nd, rfl⟩⟩; (try first | exact ⟨rfl, _, World.drewN_drewN _ _ _⟩ | exact ⟨rfl, _, Eq.trans (World.drewN_drewN _ _ _) (congrArg (World.drewN _) (Nat.add_assoc _ _ _))⟩); have p379 : 0 ≤ (x10_2 : Int) := of_decide_eq_true (by first | (with_reducible assumption) | assumption); have q379 : x10_2 < (x8_2.length : Int) := of_decide_eq_true (by first | (with_reducible assumption) | assumption); obtain ⟨ad379, e379, hx379_0, hx379_1⟩ := at_T28 (Kd.R_reads' HO_8.out).2.2 x10_2 p379 q379; obtain rfl : ad377 = ad379 := (by injection e379); replace p379 := eq_true p379; replace q379 := eq_true q379) | (go_at_call 35; (with_reducible refine (berthref02_Get.calls k2 _ _ l1 ((rd_T28 x8_2 x10_2).f0) t380 _ ?side1 ?side2 A17.out).mono ?_); (case side1 => repeat (first | exact (Kd.C_below HR1.out (by repeat (first | (with_reducible first | exact HB.out | apply below_alloc | apply pw_below_drewN | apply below_drew1) | exact HB.out))) | (with_reducible refine Kd.C_alloc ?_ _) | (with_reducible refine Kd.C_drewN ?_ _) | (with_reducible refine Kd.C_drew ?_))); (case side2 => exact HC1.out); rintro e w' ⟨rfl, ⟨nd, rfl⟩⟩; (try first | exact ⟨rfl, _, World.drewN_drewN _ _ _⟩ | exact ⟨rfl, _, Eq.trans (World.drewN_drewN _ _ _) (congrArg (World.drewN _) (Nat.add_assoc _ _ _))⟩); have p21 : 0 ≤ (x10_2 : Int) := of_decide_eq_true (by first | (with_reducible assumption) | assumption); have q21 : (x10_2 : Int) < ((x8_2.length : Int) : Int) := of_decide_eq_true (by first | (with_reducible assumption) | assumption); obtain ⟨go21, co21, eo21, gb21, gl21, cl21, HG21⟩ := Kd.R_form HO_8.out (by omega); (first | cases eo21 | (injection eo21 with ea_ en_ ec_; (first | subst ea_ | (injection ea_ with ea_; subst ea_)); subst ec_; clear en_)); have GB21 := Aside0.mk gb21; have GG21 := Aside0.mk HG21; clear gb21 gl21 HG21; (first | simp only [add_plain] at hx377_0 | skip); (first | simp only [add_plain] at hx377_1 | skip); (first | simp only [add_plain] at hx379_0 | skip); (first | simp only [add_plain] at hx379_1 | skip); (first | simp only [add_plain] at hx381_0 | skip); (first | simp only [add_plain] at hx381_1 | skip); (first | simp only [add_plain] at hx382_0 | skip); (first | simp only [add_plain] at hx382_1 | skip); (first | simp only [add_plain] at hx383_0 | skip); (first | simp only [add_plain] at hx383_1 | skip); obtain ⟨ce21, hcl21, hM21, hcc21, hfr21⟩ := Kd.R_elem HO_8.out z28 (x10_2 : Int) p21 q21; obtain rfl := k28_openM hM21; have hx21_0 : wr.cell? ⟨go21, (x10_2 : Int).toNat * 2, none⟩ = some (.string ((rd_T28 x8_2 x10_2).f0)) := hcc21 0 _ rfl; have hx21_1 : wr.cell? ⟨go21, (x10_2 : Int).toNat * 2 + 1, none⟩ = some (.int .i64 ((rd_T28 x8_2 x10_2).f1)) := hcc21 1 _ rfl; have hf21_0 : wr.frozen? ⟨go21, (x10_2 : Int).toNat * 2, none⟩ = false := hfr21 0; have hf21_1 : wr.frozen? ⟨go21, (x10_2 : Int).toNat * 2 + 1, none⟩ = false := hfr21 1; clear hcl21 hcc21 hfr21 hM21; replace p21 := eq_true p21; replace q21 := eq_true q21; have HX22 := Aside0.mk (show Kd.R k28 28 wr w.heap.size (fun _ => True) (.slice (some ⟨go21, 0, none⟩) x8_2.length co13) x8_2 from (by (with_reducible repeat (first | apply Kd.R_alloc | apply Kd.R_drewN | apply Kd.R_drew)); exact HO_8.out)); obtain ⟨ce22, hcl22, hM22, hcc22, hfr22⟩ := Kd.R_elem HX22.out z28 (x10_2 : Int) (of_decide_eq_true (by first | (with_reducible assumption) | assumption)) (by have h_ : (x10_2 : Int) < ((x8_2.length : Int) : Int) := of_decide_eq_true (by first | (with_reducible assumption) | assumption); first | exact h_ | (have e_ := (Kd.R_reads' HO_8.out).1; omega) | simpa using h_); obtain rfl := k28_openM hM22; have HP22 := Kd.R_seg HX22.out (x10_2 : Int) (of_decide_eq_true (by first | (with_reducible assumption) | assumption)) (by have h_ : (x10_2 : Int) < ((x8_2.length : Int) : Int) := of_decide_eq_true (by first | (with_reducible assumption) | assumption); first | exact h_ | (have e_ := (Kd.R_reads' HO_8.out).1; omega) | simpa using h_) (seg := [.int .i64 (wrap64 (t378 + t380))]) (j := 1) hcl22 hcc22 (show 2 ≤ 2 from by decide) (x' := (⟨(rd_T28 x8_2 x10_2).f0, wrap64 (t378 + t380)⟩ : S28)) (k28_mkM _ _ _ (⟨(rd_T28 x8_2 x10_2).f0, wrap64 (t378 + t380)⟩ : S28) ) (fun _ hk => hk); have hx22_1 := hcc22 1 _ rfl; (try simp only [show (k28).sz = 2 from rfl, Nat.mul_one, Nat.add_zero] at hx22_1); have hf22_1 := hfr22 1; (try simp only [show (k28).sz = 2 from rfl, Nat.mul_one, Nat.add_zero] at hf22_1); clear hcl22 hcc22 hfr22 hM22) | ((with_reducible refine gate_store (t := 3) (p := 74) rfl ?_); (try (rw [drewN_self wr]; generalize hq_ : World.drewN wr _ = wr; have n0_ := Aside0.mk (Kd.R_at hq_ HO_8.out); have n1_ := Aside0.mk (below_at hq_ HB.out); clear hq_ HO_8 HB; have HO_8 := n0_; have HB := n1_; clear n0_ n1_; (try (have HX22 := Aside0.mk (show Kd.R k28 28 wr w.heap.size (fun _ => True) (.slice (some ⟨go21, 0, none⟩) x8_2.length co13) x8_2 from (by (with_reducible repeat (first | apply Kd.R_alloc | apply Kd.R_drewN | apply Kd.R_drew)); exact HO_8.out)))); (try (obtain ⟨ce22, hcl22, hM22, hcc22, hfr22⟩ := Kd.R_elem HX22.out z28 (x10_2 : Int) (of_decide_eq_true (by first | (with_reducible assumption) | assumption)) (by have h_ : (x10_2 : Int) < ((x8_2.length : Int) : Int) := of_decide_eq_true (by first | (with_reducible assumption) | assumption); first | exact h_ | (have e_ := (Kd.R_reads' HO_8.out).1; omega) | simpa using h_))); (try (obtain rfl := k28_openM hM22)); (try (have HP22 := Kd.R_seg HX22.out (x10_2 : Int) (of_decide_eq_true (by first | (with_reducible assumption) | assumption)) (by have h_ : (x10_2 : Int) < ((x8_2.length : Int) : Int) := of_decide_eq_true (by first | (with_reducible assumption) | assumption); first | exact h_ | (have e_ := (Kd.R_reads' HO_8.out).1; omega) | simpa using h_) (seg := [.int .i64 (wrap64 (t378 + t380))]) (j := 1) hcl22 hcc22 (show 2 ≤ 2 from by decide) (x' := (⟨(rd_T28 x8_2 x10_2).f0, wrap64 (t378 + t380)⟩ : S28)) (k28_mkM _ _ _ (⟨(rd_T28 x8_2 x10_2).f0, wrap64 (t378 + t380)⟩ : S28) ) (fun _ hk => hk))); (try (have hx22_1 := hcc22 1 _ rfl)); (try (try simp only [show (k28).sz = 2 from rfl, Nat.mul_one, Nat.add_zero] at hx22_1)); (try (have hf22_1 := hfr22 1)); (try (try simp only [show (k28).sz = 2 from rfl, Nat.mul_one, Nat.add_zero] at hf22_1)); (try (clear hcl22 hcc22 hfr22 hM22)))); refine store_event (t := 3) (p := 74) (v := ?vo_w23) (w1 := (wr.setCell ⟨go21, (x10_2 : Int).toNat * 2 + 1, none⟩ (.int .i64 (wrap64 (t378 + t380))))) ?hg ?ho ?hn ?hr ?_; (case ho => rfl); (case hg => rfl); (case hn => rfl); (case hr => first | (go_simp; done) | (go_simp; rfl)); intro w23 hw; have hg : wr.grownBy w23 (some go21) := (by rw [hw]; exact HP22.2); have hp_ : Kd.R k28 28 w23 w.heap.size (fun _ => True) (.slice (some ⟨go21, 0, none⟩) x8_2.length co13) y384 := (by rw [hw, Ny384.out]; exact HP22.1); clear HP22; have n0_ := Aside0.mk (hp_); have n1_ := Aside0.mk ((by rw [hw]; exact below_set (HB.out) GB21.out : Below w.heap.size w w23)); clear HO_8; clear HB; have HO_8 := n0_; have HB := n1_; clear n0_ n1_; clear hg hw hp_)); try go_wp2_with (first | (go_at_call 35; (with_reducible refine (berthref02_Get.calls k2 _ _ l0 ((rd_T28 x8_2 x10_2).f0) t378 _ ?side1 ?side2 A16.out).mono ?_); (case side1 => repeat (first | exact (Kd.C_below HR0.out HB.out) | (with_reducible refine Kd.C_alloc ?_ _) | (with_reducible refine Kd.C_drewN ?_ _) | (with_reducible refine Kd.C_drew ?_))); (case side2 => exact HC0.out); rintro e w' ⟨rfl, ⟨nd, rfl⟩⟩; (try first | exact ⟨rfl, _, World.drewN_drewN _ _ _⟩ | exact ⟨rfl, _, Eq.trans (World.drewN_drewN _ _ _) (congrArg (World.drewN _) (Nat.add_assoc _ _ _))⟩); have p379 : 0 ≤ (x10_2 : Int) := of_decide_eq_true (by first | (with_reducible assumption) | assumption); have q379 : x10_2 < (x8_2.length : Int) := of_decide_eq_true (by first | (with_reducible assumption) | assumption); obtain ⟨ad379, e379, hx379_0, hx379_1⟩ := at_T28 (Kd.R_reads' HO_8.out).2.2 x10_2 p379 q379; obtain rfl : ad377 = ad379 := (by injection e379); replace p379 := eq_true p379; replace q379 := eq_true q379) | (go_at_call 35; (with_reducible refine (berthref02_Get.calls k2 _ _ l1 ((rd_T28 x8_2 x10_2).f0) t380 _ ?side1 ?side2 A17.out).mono ?_); (case side1 => repeat (first | exact (Kd.C_below HR1.out (by repeat (first | (with_reducible first | exact HB.out | apply below_alloc | apply pw_below_drewN | apply below_drew1) | exact HB.out))) | (with_reducible refine Kd.C_alloc ?_ _) | (with_reducible refine Kd.C_drewN ?_ _) | (with_reducible refine Kd.C_drew ?_))); (case side2 => exact HC1.out); rintro e w' ⟨rfl, ⟨nd, rfl⟩⟩; (try first | exact ⟨rfl, _, World.drewN_drewN _ _ _⟩ | exact ⟨rfl, _, Eq.trans (World.drewN_drewN _ _ _) (congrArg (World.drewN _) (Nat.add_assoc _ _ _))⟩); have p21 : 0 ≤ (x10_2 : Int) := of_decide_eq_true (by first | (with_reducible assumption) | assumption); have q21 : (x10_2 : Int) < ((x8_2.length : Int) : Int) := of_decide_eq_true (by first | (with_reducible assumption) | assumption); obtain ⟨go21, co21, eo21, gb21, gl21, cl21, HG21⟩ := Kd.R_form HO_8.out (by omega); (first | cases eo21 | (injection eo21 with ea_ en_ ec_; (first | subst ea_ | (injection ea_ with ea_; subst ea_)); subst ec_; clear en_)); have GB21 := Aside0.mk gb21; have GG21 := Aside0.mk HG21; clear gb21 gl21 HG21; (first | simp only [add_plain] at hx377_0 | skip); (first | simp only [add_plain] at hx377_1 | skip); (first | simp only [add_plain] at hx379_0 | skip); (first | simp only [add_plain] at hx379_1 | skip); (first | simp only [add_plain] at hx381_0 | skip); (first | simp only [add_plain] at hx381_1 | skip); (first | simp only [add_plain] at hx382_0 | skip); (first | simp only [add_plain] at hx382_1 | skip); (first | simp only [add_plain] at hx383_0 | skip); (first | simp only [add_plain] at hx383_1 | skip); obtain ⟨ce21, hcl21, hM21, hcc21, hfr21⟩ := Kd.R_elem HO_8.out z28 (x10_2 : Int) p21 q21; obtain rfl := k28_openM hM21; have hx21_0 : wr.cell? ⟨go21, (x10_2 : Int).toNat * 2, none⟩ = some (.string ((rd_T28 x8_2 x10_2).f0)) := hcc21 0 _ rfl; have hx21_1 : wr.cell? ⟨go21, (x10_2 : Int).toNat * 2 + 1, none⟩ = some (.int .i64 ((rd_T28 x8_2 x10_2).f1)) := hcc21 1 _ rfl; have hf21_0 : wr.frozen? ⟨go21, (x10_2 : Int).toNat * 2, none⟩ = false := hfr21 0; have hf21_1 : wr.frozen? ⟨go21, (x10_2 : Int).toNat * 2 + 1, none⟩ = false := hfr21 1; clear hcl21 hcc21 hfr21 hM21; replace p21 := eq_true p21; replace q21 := eq_true q21; have HX22 := Aside0.mk (show Kd.R k28 28 wr w.heap.size (fun _ => True) (.slice (some ⟨go21, 0, none⟩) x8_2.length co13) x8_2 from (by (with_reducible repeat (first | apply Kd.R_alloc | apply Kd.R_drewN | apply Kd.R_drew)); exact HO_8.out)); obtain ⟨ce22, hcl22, hM22, hcc22, hfr22⟩ := Kd.R_elem HX22.out z28 (x10_2 : Int) (of_decide_eq_true (by first | (with_reducible assumption) | assumption)) (by have h_ : (x10_2 : Int) < ((x8_2.length : Int) : Int) := of_decide_eq_true (by first | (with_reducible assumption) | assumption); first | exact h_ | (have e_ := (Kd.R_reads' HO_8.out).1; omega) | simpa using h_); obtain rfl := k28_openM hM22; have HP22 := Kd.R_seg HX22.out (x10_2 : Int) (of_decide_eq_true (by first | (with_reducible assumption) | assumption)) (by have h_ : (x10_2 : Int) < ((x8_2.length : Int) : Int) := of_decide_eq_true (by first | (with_reducible assumption) | assumption); first | exact h_ | (have e_ := (Kd.R_reads' HO_8.out).1; omega) | simpa using h_) (seg := [.int .i64 (wrap64 (t378 + t380))]) (j := 1) hcl22 hcc22 (show 2 ≤ 2 from by decide) (x' := (⟨(rd_T28 x8_2 x10_2).f0, wrap64 (t378 + t380)⟩ : S28)) (k28_mkM _ _ _ (⟨(rd_T28 x8_2 x10_2).f0, wrap64 (t378 + t380)⟩ : S28) ) (fun _ hk => hk); have hx22_1 := hcc22 1 _ rfl; (try simp only [show (k28).sz = 2 from rfl, Nat.mul_one, Nat.add_zero] at hx22_1); have hf22_1 := hfr22 1; (try simp only [show (k28).sz = 2 from rfl, Nat.mul_one, Nat.add_zero] at hf22_1); clear hcl22 hcc22 hfr22 hM22) | ((with_reducible refine gate_store (t := 3) (p := 74) rfl ?_); (try (rw [drewN_self wr]; generalize hq_ : World.drewN wr _ = wr; have n0_ := Aside0.mk (Kd.R_at hq_ HO_8.out); have n1_ := Aside0.mk (below_at hq_ HB.out); clear hq_ HO_8 HB; have HO_8 := n0_; have HB := n1_; clear n0_ n1_; (try (have HX22 := Aside0.mk (show Kd.R k28 28 wr w.heap.size (fun _ => True) (.slice (some ⟨go21, 0, none⟩) x8_2.length co13) x8_2 from (by (with_reducible repeat (first | apply Kd.R_alloc | apply Kd.R_drewN | apply Kd.R_drew)); exact HO_8.out)))); (try (obtain ⟨ce22, hcl22, hM22, hcc22, hfr22⟩ := Kd.R_elem HX22.out z28 (x10_2 : Int) (of_decide_eq_true (by first | (with_reducible assumption) | assumption)) (by have h_ : (x10_2 : Int) < ((x8_2.length : Int) : Int) := of_decide_eq_true (by first | (with_reducible assumption) | assumption); first | exact h_ | (have e_ := (Kd.R_reads' HO_8.out).1; omega) | simpa using h_))); (try (obtain rfl := k28_openM hM22)); (try (have HP22 := Kd.R_seg HX22.out (x10_2 : Int) (of_decide_eq_true (by first | (with_reducible assumption) | assumption)) (by have h_ : (x10_2 : Int) < ((x8_2.length : Int) : Int) := of_decide_eq_true (by first | (with_reducible assumption) | assumption); first | exact h_ | (have e_ := (Kd.R_reads' HO_8.out).1; omega) | simpa using h_) (seg := [.int .i64 (wrap64 (t378 + t380))]) (j := 1) hcl22 hcc22 (show 2 ≤ 2 from by decide) (x' := (⟨(rd_T28 x8_2 x10_2).f0, wrap64 (t378 + t380)⟩ : S28)) (k28_mkM _ _ _ (⟨(rd_T28 x8_2 x10_2).f0, wrap64 (t378 + t380)⟩ : S28) ) (fun _ hk => hk))); (try (have hx22_1 := hcc22 1 _ rfl)); (try (try simp only [show (k28).sz = 2 from rfl, Nat.mul_one, Nat.add_zero] at hx22_1)); (try (have hf22_1 := hfr22 1)); (try (try simp only [show (k28).sz = 2 from rfl, Nat.mul_one, Nat.add_zero] at hf22_1)); (try (clear hcl22 hcc22 hfr22 hM22)))); refine store_event (t := 3) (p := 74) (v := ?vo_w23) (w1 := (wr.setCell ⟨go21, (x10_2 : Int).toNat * 2 + 1, none⟩ (.int .i64 (wrap64 (t378 + t380))))) ?hg ?ho ?hn ?hr ?_; (case ho => rfl); (case hg => rfl); (case hn => rfl); (case hr => first | (go_simp; done) | (go_simp; rfl)); intro w23 hw; have hg : wr.grownBy w23 (some go21) := (by rw [hw]; exact HP22.2); have hp_ : Kd.R k28 28 w23 w.heap.size (fun _ => True) (.slice (some ⟨go21, 0, none⟩) x8_2.length co13) y384 := (by rw [hw, Ny384.out]; exact HP22.1); clear HP22; have n0_ := Aside0.mk (hp_); have n1_ := Aside0.mk ((by rw [hw]; exact below_set (HB.out) GB21.out : Below w.heap.size w w23)); clear HO_8; clear HB; have HO_8 := n0_; have HB := n1_; clear n0_ n1_; clear hg hw hp_)))
          (try simp only [← hl8_2])
          go_roundg k2
          case measure => have := HJ3.out; have := HK2.out; omega
          case rel => exact ⟨(y384), (x9_2), (wrap64 (x10_2 + 1)), (by first | rfl | (simp; done) | (simp [*]; done) | (simp only [i64_w]; done) | (simp [i64_w, Int.tdiv_eq_ediv_of_nonneg]; done)), (by first | rfl | (simp; done) | (simp [*]; done) | (simp only [i64_w]; done) | (simp [i64_w, Int.tdiv_eq_ediv_of_nonneg]; done)), H', ⟨by have := HJ3.out; have := HK2.out; omega⟩, ⟨by (try simp only [hl8_2]); (with_reducible repeat (first | apply Kd.R_alloc | apply Kd.R_drewN | apply Kd.R_drew)); exact HO_8.out⟩, ⟨by repeat (first | (with_reducible first | exact HB.out | apply below_alloc | apply pw_below_drewN | apply below_drew1) | exact HB.out)⟩⟩
        ·
         rw [if_neg c15] at H
         exact absurd H (by simp)
       ·
        rw [if_neg c14] at H
        have c14b0 : decide (x10_2 < (x8_2.length : Int)) = false := decide_eq_false c14
        clear c14
        by_cases c24 : x9_2.toList = ([] : List UInt8)
        ·
         rw [if_pos c24] at H
         have c24b0 : (x9_2.toList == ([] : List UInt8)) = true := beq_iff_eq.mpr c24
         have c24b1 : (x9_2.toList != ([] : List UInt8)) = false := bne_eq_false_iff_eq.mpr c24
         clear c24
         replace H := Option.bind_eq_some_iff.mp H
         obtain ⟨t374, A250, H⟩ := H
         replace H : (some (t374, (⟨#[]⟩ : ByteArray), 0)) = some (r1, r2, r3) := H
         have A25 := Aside0.mk A250
         clear A250
         simp only [Option.some.injEq, Prod.mk.injEq] at H
         obtain ⟨rfl, rfl, rfl⟩ := H
         go_wp2_with (first | (go_at_call 36; (with_reducible refine (berthref02_Rising.calls k2 _ _ x8_2 t374 _ ?side1 ?side2 A25.out).mono ?_); (case side1 => repeat (first | exact (Kd.R_reads' HO_8.out).2.2 | (with_reducible refine Kd.C_alloc ?_ _) | (with_reducible refine Kd.C_drewN ?_ _) | (with_reducible refine Kd.C_drew ?_))); (case side2 => exact (Kd.R_reads' HO_8.out).2.1); rintro e w26 ⟨v375, rfl, ho0, hb⟩; have n0_ := Aside0.mk (Kd.R_elder' (by (with_reducible repeat (first | apply Kd.R_alloc | apply Kd.R_drewN | apply Kd.R_drew)); exact HO_8.out) (Kd.R_base ho0) hb); have n1_ := Aside0.mk (Kd.R_lower (Kd.R_new' ho0 (Kd.R_lt (by (with_reducible repeat (first | apply Kd.R_alloc | apply Kd.R_drewN | apply Kd.R_drew)); exact HO_8.out))) (below_size (by repeat (first | (with_reducible first | exact HB.out | apply below_alloc | apply pw_below_drewN | apply below_drew1) | exact HB.out)))); have n2_ := Aside0.mk (below_step (by repeat (first | (with_reducible first | exact HB.out | apply below_alloc | apply pw_below_drewN | apply below_drew1) | exact HB.out)) hb); clear HO_8; clear HB; have HO_8 := n0_; have HO376 := n1_; have HB := n2_; clear n0_ n1_ n2_; (try clear hb); (try clear hb2); (try clear hk); (try clear hi); (try clear ho0)))
         repeat (go_quiet (first | (go_at_call 36; (with_reducible refine (berthref02_Rising.calls k2 _ _ x8_2 t374 _ ?side1 ?side2 A25.out).mono ?_); (case side1 => repeat (first | exact (Kd.R_reads' HO_8.out).2.2 | (with_reducible refine Kd.C_alloc ?_ _) | (with_reducible refine Kd.C_drewN ?_ _) | (with_reducible refine Kd.C_drew ?_))); (case side2 => exact (Kd.R_reads' HO_8.out).2.1); rintro e w26 ⟨v375, rfl, ho0, hb⟩; have n0_ := Aside0.mk (Kd.R_elder' (by (with_reducible repeat (first | apply Kd.R_alloc | apply Kd.R_drewN | apply Kd.R_drew)); exact HO_8.out) (Kd.R_base ho0) hb); have n1_ := Aside0.mk (Kd.R_lower (Kd.R_new' ho0 (Kd.R_lt (by (with_reducible repeat (first | apply Kd.R_alloc | apply Kd.R_drewN | apply Kd.R_drew)); exact HO_8.out))) (below_size (by repeat (first | (with_reducible first | exact HB.out | apply below_alloc | apply pw_below_drewN | apply below_drew1) | exact HB.out)))); have n2_ := Aside0.mk (below_step (by repeat (first | (with_reducible first | exact HB.out | apply below_alloc | apply pw_below_drewN | apply below_drew1) | exact HB.out)) hb); clear HO_8; clear HB; have HO_8 := n0_; have HO376 := n1_; have HB := n2_; clear n0_ n1_ n2_; (try clear hb); (try clear hb2); (try clear hk); (try clear hi); (try clear ho0))); try go_wp2_with (first | (go_at_call 36; (with_reducible refine (berthref02_Rising.calls k2 _ _ x8_2 t374 _ ?side1 ?side2 A25.out).mono ?_); (case side1 => repeat (first | exact (Kd.R_reads' HO_8.out).2.2 | (with_reducible refine Kd.C_alloc ?_ _) | (with_reducible refine Kd.C_drewN ?_ _) | (with_reducible refine Kd.C_drew ?_))); (case side2 => exact (Kd.R_reads' HO_8.out).2.1); rintro e w26 ⟨v375, rfl, ho0, hb⟩; have n0_ := Aside0.mk (Kd.R_elder' (by (with_reducible repeat (first | apply Kd.R_alloc | apply Kd.R_drewN | apply Kd.R_drew)); exact HO_8.out) (Kd.R_base ho0) hb); have n1_ := Aside0.mk (Kd.R_lower (Kd.R_new' ho0 (Kd.R_lt (by (with_reducible repeat (first | apply Kd.R_alloc | apply Kd.R_drewN | apply Kd.R_drew)); exact HO_8.out))) (below_size (by repeat (first | (with_reducible first | exact HB.out | apply below_alloc | apply pw_below_drewN | apply below_drew1) | exact HB.out)))); have n2_ := Aside0.mk (below_step (by repeat (first | (with_reducible first | exact HB.out | apply below_alloc | apply pw_below_drewN | apply below_drew1) | exact HB.out)) hb); clear HO_8; clear HB; have HO_8 := n0_; have HO376 := n1_; have HB := n2_; clear n0_ n1_ n2_; (try clear hb); (try clear hb2); (try clear hk); (try clear hi); (try clear ho0))))
         go_ret3
         exact ⟨_, by first | rfl | (simp [errW_none, errW_some] <;> rfl) | (simp [*, errW_none, errW_some] <;> rfl), by (with_reducible repeat (first | apply Kd.R_alloc | apply Kd.R_drewN | apply Kd.R_drew)); exact Kd.R_mono HO376.out (fun _ hk => trivial), by repeat (first | (with_reducible first | exact HB.out | apply below_alloc | apply pw_below_drewN | apply below_drew1) | exact HB.out)⟩
        ·
         rw [if_neg c24] at H
         have c24b0 : (x9_2.toList == ([] : List UInt8)) = false := beq_eq_false_iff_ne.mpr c24
         have c24b1 : (x9_2.toList != ([] : List UInt8)) = true := bne_iff_ne.mpr c24
         simp only [Option.some.injEq, Prod.mk.injEq] at H
         obtain ⟨rfl, rfl, rfl⟩ := H
         go_wp2
         repeat (go_quiet (fail); try go_wp2)
         go_ret3
         exact ⟨_, by first | rfl | (simp [errW_none, errW_some] <;> rfl) | (simp [*, errW_none, errW_some] <;> rfl), by first | exact Kd.R_nil _ _ _ _ _ | exact Kd.N_nil _ _ _ _ _ | exact Kd.V_nil _ _ _ _ _ | exact Kd.Q_nil _ _ _ _ _ | exact Kd.S_nil _ _ _ _ _, by repeat (first | (with_reducible first | exact HB.out | apply below_alloc | apply pw_below_drewN | apply below_drew1) | exact HB.out)⟩
   ·
    rw [if_neg c7] at H
    have c7b0 : (x7_3 == 0) = false := beq_eq_false_iff_ne.mpr c7
    have c7b1 : (x7_3 != 0) = true := bne_iff_ne.mpr c7
    simp only [Option.some.injEq, Prod.mk.injEq] at H
    obtain ⟨rfl, rfl, rfl⟩ := H
    go_wp2
    repeat (go_quiet (fail); try go_wp2)
    go_ret3
    exact ⟨_, by first | rfl | (simp [errW_none, errW_some] <;> rfl) | (simp [*, errW_none, errW_some] <;> rfl), by first | exact Kd.R_nil _ _ _ _ _ | exact Kd.N_nil _ _ _ _ _ | exact Kd.V_nil _ _ _ _ _ | exact Kd.Q_nil _ _ _ _ _ | exact Kd.S_nil _ _ _ _ _, by repeat (first | (with_reducible first | exact HB.out | apply below_alloc | apply pw_below_drewN | apply below_drew1) | exact HB.out)⟩
end Go.Proofs.Ytbibnendaddbhaa.All
