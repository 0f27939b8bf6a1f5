/- A part of the proof of CodeEncodes: walks written by a program of this session. -/
import Derived.Test.YtlocnfkkfpfpfaazCEm1
namespace Go.Proofs.Ytlocnfkkfpfpfaa.Six
open Go.RowKit Go.Proofs.YtlocnfkkfpfpfaaW.PrintWords Go.Proofs.YtlocnfkkfpfpfaaW.PrintLast Go.Proofs.YtlocnfkkfpfpfaaW.PrintMore
attribute [local go_sem] max2_int min2_int max_two min_two max_three min_three max_four min_four
attribute [local go_sem] Go.Proofs.YtlocnfkkfpfpfaaX.binOp_leq Go.Proofs.YtlocnfkkfpfpfaaX.binOp_geq Go.Proofs.YtlocnfkkfpfpfaaX.binOp_gtr
set_option linter.unusedVariables false
set_option linter.unusedSimpArgs false
mutual
def berthref20_Copy.l0 : Nat → Int → List ByteArray → List Int → List (List ByteArray) → List (List Int) → List (S74) → Int → Int → List ByteArray → List Int → List (List ByteArray) → List (S74) → Int → Int → Option (List ByteArray × List Int × (List (List ByteArray)) × (List (List Int)) × (List (S74)) × Int × Int)
  | 0, _, _, _, _, _, _, _, _, _, _, _, _, _, _ => none
  | k + 1, x4, x311000, x311001, x311002, x311003, x311004, x311005, x311006, x313000, x313001, x313002, x313004, x313005, x313006 => if x4 < (x311002.length : Int) then ((some (([] : List ByteArray) : List ByteArray)).bind fun y322 => (if 0 ≤ x4 then (if y322.length + (rd_L2 x311002 x4).length < 8796093022208 then (if x313002.length < 5864062014805 then (berthref20_Copy.l0 k (wrap64 (x4 + 1)) x311000 x311001 x311002 x311003 x311004 x311005 x311006 x313000 x313001 (x313002 ++ [(y322 ++ (rd_L2 x311002 x4))]) x313004 x313005 x313006) else (none)) else (none)) else (none))) else (berthref20_Copy.l1 k 0 x311000 x311001 x311002 x311003 x311004 x311005 x311006 x313000 x313001 x313002 ([] : List (List Int)) x313004 x313005 x313006)
def berthref20_Copy.l1 : Nat → Int → List ByteArray → List Int → List (List ByteArray) → List (List Int) → List (S74) → Int → Int → List ByteArray → List Int → List (List ByteArray) → List (List Int) → List (S74) → Int → Int → Option (List ByteArray × List Int × (List (List ByteArray)) × (List (List Int)) × (List (S74)) × Int × Int)
  | 0, _, _, _, _, _, _, _, _, _, _, _, _, _, _, _ => none
  | k + 1, x5, x311000, x311001, x311002, x311003, x311004, x311005, x311006, x313000, x313001, x313002, x313003, x313004, x313005, x313006 => if x5 < (x311003.length : Int) then ((some (([] : List Int) : List Int)).bind fun y332 => (if 0 ≤ x5 then (if y332.length + (rd_L3 x311003 x5).length < 17592186044416 then (if x313003.length < 5864062014805 then (berthref20_Copy.l1 k (wrap64 (x5 + 1)) x311000 x311001 x311002 x311003 x311004 x311005 x311006 x313000 x313001 x313002 (x313003 ++ [(y332 ++ (rd_L3 x311003 x5))]) x313004 x313005 x313006) else (none)) else (none)) else (none))) else (some (x313000, x313001, x313002, x313003, x313004, x313005, x313006))
end
def berthref20_Copy.f (k : Nat) (l0_0 : List ByteArray) (l0_1 : List Int) (l0_2 : List (List ByteArray)) (l0_3 : List (List Int)) (l0_4 : List (S74)) (a0_5 : Int) (a0_6 : Int) : Option (List ByteArray × List Int × (List (List ByteArray)) × (List (List Int)) × (List (S74)) × Int × Int) := if ([] : List ByteArray).length + l0_0.length < 8796093022208 then (if ([] : List Int).length + l0_1.length < 17592186044416 then (if ([] : List (S74)).length + l0_4.length < 4398046511104 then (berthref20_Copy.l0 k 0 l0_0 l0_1 l0_2 l0_3 l0_4 a0_5 a0_6 (([] : List ByteArray) ++ l0_0) (([] : List Int) ++ l0_1) ([] : List (List ByteArray)) (([] : List (S74)) ++ l0_4) a0_5 a0_6) else (none)) else (none)) else (none)
theorem berthref20_Copy.mono_l : ∀ k, (∀ y0 y1 y2 y3 y4 y5 y6 y7 y8 y9 y10 y11 y12 y13, LeO (berthref20_Copy.l0 k y0 y1 y2 y3 y4 y5 y6 y7 y8 y9 y10 y11 y12 y13) (berthref20_Copy.l0 (k + 1) y0 y1 y2 y3 y4 y5 y6 y7 y8 y9 y10 y11 y12 y13)) ∧ (∀ y0 y1 y2 y3 y4 y5 y6 y7 y8 y9 y10 y11 y12 y13 y14, LeO (berthref20_Copy.l1 k y0 y1 y2 y3 y4 y5 y6 y7 y8 y9 y10 y11 y12 y13 y14) (berthref20_Copy.l1 (k + 1) y0 y1 y2 y3 y4 y5 y6 y7 y8 y9 y10 y11 y12 y13 y14))
  | 0 => ⟨fun _ _ _ _ _ _ _ _ _ _ _ _ _ _ r h => by simp [berthref20_Copy.l0] at h, fun _ _ _ _ _ _ _ _ _ _ _ _ _ _ _ r h => by simp [berthref20_Copy.l1] at h⟩
  | k + 1 => by
    obtain ⟨ih0, ih1⟩ := berthref20_Copy.mono_l k
    refine ⟨?_, ?_⟩
    · intro y0 y1 y2 y3 y4 y5 y6 y7 y8 y9 y10 y11 y12 y13
      unfold berthref20_Copy.l0
      repeat' first
      | (with_reducible exact ih0 _ _ _ _ _ _ _ _ _ _ _ _ _ _)
      | (with_reducible exact ih1 _ _ _ _ _ _ _ _ _ _ _ _ _ _ _)
      | (with_reducible exact LeO.refl _)
      | (with_reducible exact LeO.none _)
      | (with_reducible refine LeO.ite ?_ ?_)
      | (with_reducible refine LeO.bind ?_ (fun _ => ?_))
      | exact ih0 _ _ _ _ _ _ _ _ _ _ _ _ _ _
      | exact ih1 _ _ _ _ _ _ _ _ _ _ _ _ _ _ _
      | exact LeO.none _
      | refine LeO.ite ?_ ?_
      | refine LeO.bind ?_ (fun _ => ?_)
    · intro y0 y1 y2 y3 y4 y5 y6 y7 y8 y9 y10 y11 y12 y13 y14
      unfold berthref20_Copy.l1
      repeat' first
      | (with_reducible exact ih0 _ _ _ _ _ _ _ _ _ _ _ _ _ _)
      | (with_reducible exact ih1 _ _ _ _ _ _ _ _ _ _ _ _ _ _ _)
      | (with_reducible exact LeO.refl _)
      | (with_reducible exact LeO.none _)
      | (with_reducible refine LeO.ite ?_ ?_)
      | (with_reducible refine LeO.bind ?_ (fun _ => ?_))
      | exact ih0 _ _ _ _ _ _ _ _ _ _ _ _ _ _
      | exact ih1 _ _ _ _ _ _ _ _ _ _ _ _ _ _ _
      | exact LeO.none _
      | refine LeO.ite ?_ ?_
      | refine LeO.bind ?_ (fun _ => ?_)
theorem berthref20_Copy.mono : ∀ a0 a1 a2 a3 a4 a5 a6 k, LeO (berthref20_Copy.f k a0 a1 a2 a3 a4 a5 a6) (berthref20_Copy.f (k + 1) a0 a1 a2 a3 a4 a5 a6) := by
  intro a0 a1 a2 a3 a4 a5 a6 k
  obtain ⟨ih0, ih1⟩ := berthref20_Copy.mono_l k
  unfold berthref20_Copy.f
  repeat' first
      | (with_reducible exact ih0 _ _ _ _ _ _ _ _ _ _ _ _ _ _)
      | (with_reducible exact ih1 _ _ _ _ _ _ _ _ _ _ _ _ _ _ _)
      | (with_reducible exact LeO.refl _)
      | (with_reducible exact LeO.none _)
      | (with_reducible refine LeO.ite ?_ ?_)
      | (with_reducible refine LeO.bind ?_ (fun _ => ?_))
      | exact ih0 _ _ _ _ _ _ _ _ _ _ _ _ _ _
      | exact ih1 _ _ _ _ _ _ _ _ _ _ _ _ _ _ _
      | exact LeO.none _
      | refine LeO.ite ?_ ?_
      | refine LeO.bind ?_ (fun _ => ?_)
def berthref20_Copy.T8 : Bool × List (List Nat × List Nat) := (true, [([], []), ([0], [0]), ([], []), ([], []), ([3], [3]), ([], []), ([4, 5], [4, 5]), ([6], [6]), ([2, 7], [2, 7]), ([8], [8]), ([1, 9, 8], [1, 9]), ([0, 1, 2, 3, 4, 5, 6, 7, 8, 9, 10], []), ([11, 10, 10, 0, 1, 2, 3, 4, 5, 6, 7, 8, 9, 10], [10, 11])])
def berthref20_Copy.B8 : List Nat := [0, 1, 0, 0, 8, 0, 56, 120, 252, 508, 1023, 2047, 4095]
theorem berthref20_Copy.tab8 : rtab .any (opsOf Try.f14 8) = berthref20_Copy.T8 := by kernel_rfl
theorem berthref20_Copy.bits8 : waitsOk berthref20_Copy.T8.2 berthref20_Copy.B8 = true := by kernel_rfl
def berthref20_Copy.T12 : Bool × List (List Nat × List Nat) := (true, [([], []), ([0], [0]), ([], []), ([], []), ([3], [3]), ([], []), ([4, 5], [4, 5]), ([6], [6]), ([2, 7], [2, 7]), ([8], [8]), ([1, 9, 8], [1, 9]), ([0, 1, 2, 3, 4, 5, 6, 7, 8, 9, 10], []), ([11, 10, 10, 0, 1, 2, 3, 4, 5, 6, 7, 8, 9, 10], [10, 11])])
def berthref20_Copy.B12 : List Nat := [0, 1, 0, 0, 8, 0, 56, 120, 252, 508, 1023, 2047, 4095]
theorem berthref20_Copy.tab12 : rtab .any (opsOf Try.f14 12) = berthref20_Copy.T12 := by kernel_rfl
theorem berthref20_Copy.bits12 : waitsOk berthref20_Copy.T12.2 berthref20_Copy.B12 = true := by kernel_rfl
set_option maxHeartbeats 8000000 in
set_option maxRecDepth 100000 in
theorem berthref20_Copy.calls (k : Nat) (A0_0 : Option Addr) (c0_0 : Nat) (l0_0 : List ByteArray) (A0_1 : Option Addr) (c0_1 : Nat) (l0_1 : List Int) (A0_2 : Option Addr) (c0_2 : Nat) (l0_2 : List (List ByteArray)) (A0_3 : Option Addr) (c0_3 : Nat) (l0_3 : List (List Int)) (A0_4 : Option Addr) (c0_4 : Nat) (l0_4 : List (S74)) (a0_5 : Int) (a0_6 : Int) (r1 : List ByteArray) (r2 : List Int) (r3 : List (List ByteArray)) (r4 : List (List Int)) (r5 : List (S74)) (r6 : Int) (r7 : Int) (w : World) (hr0_0 : Kd.C Kd.string w A0_0 l0_0.length l0_0) (hc0_0 : l0_0.length ≤ c0_0) (hr0_1 : Kd.C (Kd.int .i64) w A0_1 l0_1.length l0_1) (hc0_1 : l0_1.length ≤ c0_1) (hr0_2 : Kd.C (Kd.slice 9 Kd.string) w A0_2 l0_2.length l0_2) (hc0_2 : l0_2.length ≤ c0_2) (hr0_3 : Kd.C (Kd.slice 3 (Kd.int .i64)) w A0_3 l0_3.length l0_3) (hc0_3 : l0_3.length ≤ c0_3) (hr0_4 : Kd.C k74 w A0_4 l0_4.length l0_4) (hc0_4 : l0_4.length ≤ c0_4) (h : berthref20_Copy.f k l0_0 l0_1 l0_2 l0_3 l0_4 a0_5 a0_6 = some (r1, r2, r3, r4, r5, r6, r7)) :
 Calls Try.prog 14 #[.agg #[.slice A0_0 l0_0.length c0_0, .slice A0_1 l0_1.length c0_1, .slice A0_2 l0_2.length c0_2, .slice A0_3 l0_3.length c0_3, .slice A0_4 l0_4.length c0_4, .int .i64 a0_5, .int .i64 a0_6]] w fun e w' => ∃ v0_ v1_ v2_ v3_ v4_ : Value, e = .returned (.agg #[v0_, v1_, v2_, v3_, v4_, .int .i64 r6, .int .i64 r7]) ∧ Kd.R Kd.string 9 w' w.heap.size (fun _ => True) v0_ r1 ∧ Kd.R (Kd.int .i64) 3 w' w.heap.size (fun _ => True) v1_ r2 ∧ Kd.S (Kd.slice 9 Kd.string) 26 w' w.heap.size (fun k_ => some k_ ≠ (v0_ : Value).ownBlock) v2_ r3 ∧ Kd.S (Kd.slice 3 (Kd.int .i64)) 27 w' w.heap.size (fun k_ => some k_ ≠ (v1_ : Value).ownBlock) v3_ r4 ∧ Kd.R k74 74 w' w.heap.size (fun _ => True) v4_ r5 ∧ Below w.heap.size w w' := by
 have hu32 := Try.underlying32
 have HR0_0 := Aside0.mk hr0_0
 have HC0_0 := Aside0.mk hc0_0
 clear hr0_0 hc0_0
 have HR0_1 := Aside0.mk hr0_1
 have HC0_1 := Aside0.mk hc0_1
 clear hr0_1 hc0_1
 have HR0_2 := Aside0.mk hr0_2
 have HC0_2 := Aside0.mk hc0_2
 clear hr0_2 hc0_2
 have HR0_3 := Aside0.mk hr0_3
 have HC0_3 := Aside0.mk hc0_3
 clear hr0_3 hc0_3
 have HR0_4 := Aside0.mk hr0_4
 have HC0_4 := Aside0.mk hc0_4
 clear hr0_4 hc0_4
 have HB := Aside0.mk (Below.refl w.heap.size w)
 have H : (if ([] : List ByteArray).length + l0_0.length < 8796093022208 then (if ([] : List Int).length + l0_1.length < 17592186044416 then (if ([] : List (S74)).length + l0_4.length < 4398046511104 then (berthref20_Copy.l0 k 0 l0_0 l0_1 l0_2 l0_3 l0_4 a0_5 a0_6 (([] : List ByteArray) ++ l0_0) (([] : List Int) ++ l0_1) ([] : List (List ByteArray)) (([] : List (S74)) ++ l0_4) a0_5 a0_6) else (none)) else (none)) else (none)) = some (r1, r2, r3, r4, r5, r6, r7) := h
 clear h
 by_cases c2 : ([] : List ByteArray).length + l0_0.length < 8796093022208
 ·
  rw [if_pos c2] at H
  have LMc2 := Aside0.mk c2
  clear c2
  obtain ⟨y313, hy313⟩ : ∃ y_ : List ByteArray, y_ = (([] : List ByteArray) ++ l0_0) := ⟨_, rfl⟩
  replace H : (if ([] : List Int).length + l0_1.length < 17592186044416 then (if ([] : List (S74)).length + l0_4.length < 4398046511104 then (berthref20_Copy.l0 k 0 l0_0 l0_1 l0_2 l0_3 l0_4 a0_5 a0_6 y313 (([] : List Int) ++ l0_1) ([] : List (List ByteArray)) (([] : List (S74)) ++ l0_4) a0_5 a0_6) else (none)) else (none)) = some (r1, r2, r3, r4, r5, r6, r7) := by first | (rw [hy313]; with_reducible exact H) | (have H2_ := (Option.bind_some _ _).symm.trans H; rw [hy313]; with_reducible exact H2_) | (have H2_ := (Option.bind_some _ _).symm.trans H; with_reducible exact H2_) | with_reducible exact H | (rw [hy313]; exact H) | exact H
  have Ny313 := Aside0.mk hy313
  clear hy313
  by_cases c3 : ([] : List Int).length + l0_1.length < 17592186044416
  ·
   rw [if_pos c3] at H
   have LMc3 := Aside0.mk c3
   clear c3
   obtain ⟨y316, hy316⟩ : ∃ y_ : List Int, y_ = (([] : List Int) ++ l0_1) := ⟨_, rfl⟩
   replace H : (if ([] : List (S74)).length + l0_4.length < 4398046511104 then (berthref20_Copy.l0 k 0 l0_0 l0_1 l0_2 l0_3 l0_4 a0_5 a0_6 y313 y316 ([] : List (List ByteArray)) (([] : List (S74)) ++ l0_4) a0_5 a0_6) else (none)) = some (r1, r2, r3, r4, r5, r6, r7) := by first | (rw [hy316]; with_reducible exact H) | (have H2_ := (Option.bind_some _ _).symm.trans H; rw [hy316]; with_reducible exact H2_) | (have H2_ := (Option.bind_some _ _).symm.trans H; with_reducible exact H2_) | with_reducible exact H | (rw [hy316]; exact H) | exact H
   have Ny316 := Aside0.mk hy316
   clear hy316
   by_cases c4 : ([] : List (S74)).length + l0_4.length < 4398046511104
   ·
    rw [if_pos c4] at H
    have LMc4 := Aside0.mk c4
    clear c4
    obtain ⟨y319, hy319⟩ : ∃ y_ : List (S74), y_ = (([] : List (S74)) ++ l0_4) := ⟨_, rfl⟩
    replace H : (berthref20_Copy.l0 k 0 l0_0 l0_1 l0_2 l0_3 l0_4 a0_5 a0_6 y313 y316 ([] : List (List ByteArray)) y319 a0_5 a0_6) = some (r1, r2, r3, r4, r5, r6, r7) := by first | (rw [hy319]; with_reducible exact H) | (have H2_ := (Option.bind_some _ _).symm.trans H; rw [hy319]; with_reducible exact H2_) | (have H2_ := (Option.bind_some _ _).symm.trans H; with_reducible exact H2_) | with_reducible exact H | (rw [hy319]; exact H) | exact H
    have Ny319 := Aside0.mk hy319
    clear hy319
    have H' := Aside0.mk H
    clear H
    go_enter Try.func14, Try.ntmps14
    go_wp2_with (first | ((with_reducible refine gate_dst (N := 1) rfl ?_); refine box_event ?hg (N := 1) ?hd (cs := #[.slice A0_0 l0_0.length c0_0, .slice A0_1 l0_1.length c0_1, .slice A0_2 l0_2.length c0_2, .slice A0_3 l0_3.length c0_3, .slice A0_4 l0_4.length c0_4, .int .i64 a0_5, .int .i64 a0_6]) (t := 32) ?hr ?_; (case hd => rfl); (case hg => rfl); (case hr => first | (go_simp; done) | (go_simp; rfl)); intro gb310 hg w5 hbox hb; have n0_ := Aside0.mk (below_step (by repeat (first | (with_reducible first | exact HB.out | apply below_alloc | apply pw_below_drewN | apply below_drew1) | exact HB.out)) hb); have n1_ := Aside0.mk (hbox); have n2_ := Aside0.mk ((by rw [hg]; exact (below_size (by repeat (first | (with_reducible first | exact HB.out | apply below_alloc | apply pw_below_drewN | apply below_drew1) | exact HB.out))) : w.heap.size ≤ gb310)); have n3_ := Aside0.mk ((by rw [hg]; exact (below_size (by repeat (first | (with_reducible first | exact HB.out | apply below_alloc | apply pw_below_drewN | apply below_drew1) | exact HB.out))) : w.heap.size ≤ gb310)); clear HB; have HB := n0_; have BK310 := n1_; have GW310 := n2_; have GE310 := n3_; clear n0_ n1_ n2_ n3_; clear hb hbox hg) | ((with_reducible refine gate_dst (N := 2) rfl ?_); refine box_event ?hg (N := 2) ?hd (cs := #[.slice none 0 0, .slice none 0 0, .slice none 0 0, .slice none 0 0, .slice none 0 0, .int .i64 0, .int .i64 0]) (t := 32) ?hr ?_; (case hd => rfl); (case hg => rfl); (case hr => first | (go_simp; done) | (go_simp; rfl)); intro gb311 hg w6 hbox hb; have n0_ := Aside0.mk (blk_below (g := gb310) (o := .cells #[.slice A0_0 l0_0.length c0_0, .slice A0_1 l0_1.length c0_1, .slice A0_2 l0_2.length c0_2, .slice A0_3 l0_3.length c0_3, .slice A0_4 l0_4.length c0_4, .int .i64 a0_5, .int .i64 a0_6] 32 (0, 0)) (by (with_reducible repeat (first | refine blk_drewN ?_ _ | refine blk_drew ?_ | refine blk_alloc ?_ _)); exact BK310.out) hb); have n1_ := Aside0.mk (below_step (by repeat (first | (with_reducible first | exact HB.out | apply below_alloc | apply pw_below_drewN | apply below_drew1 | refine below_set ?_ GE310.out) | exact HB.out)) hb); have n2_ := Aside0.mk (hbox); have n3_ := Aside0.mk ((by rw [hg]; exact (below_size (by repeat (first | (with_reducible first | exact HB.out | apply below_alloc | apply pw_below_drewN | apply below_drew1 | refine below_set ?_ GE310.out) | exact HB.out))) : w.heap.size ≤ gb311)); have n4_ := Aside0.mk ((by rw [hg]; exact (below_size (by repeat (first | (with_reducible first | exact HB.out | apply below_alloc | apply pw_below_drewN | apply below_drew1 | refine below_set ?_ GE310.out) | exact HB.out))) : w.heap.size ≤ gb311)); have n5_ := Aside0.mk ((by rw [hg]; exact Nat.ne_of_lt (blk_lt (g := gb310) (o := .cells #[.slice A0_0 l0_0.length c0_0, .slice A0_1 l0_1.length c0_1, .slice A0_2 l0_2.length c0_2, .slice A0_3 l0_3.length c0_3, .slice A0_4 l0_4.length c0_4, .int .i64 a0_5, .int .i64 a0_6] 32 (0, 0)) (by (with_reducible repeat (first | refine blk_drewN ?_ _ | refine blk_drew ?_ | refine blk_alloc ?_ _)); exact BK310.out)) : gb310 ≠ gb311)); have n6_ := Aside0.mk ((by rw [hg]; exact Nat.ne_of_gt (blk_lt (g := gb310) (o := .cells #[.slice A0_0 l0_0.length c0_0, .slice A0_1 l0_1.length c0_1, .slice A0_2 l0_2.length c0_2, .slice A0_3 l0_3.length c0_3, .slice A0_4 l0_4.length c0_4, .int .i64 a0_5, .int .i64 a0_6] 32 (0, 0)) (by (with_reducible repeat (first | refine blk_drewN ?_ _ | refine blk_drew ?_ | refine blk_alloc ?_ _)); exact BK310.out)) : gb311 ≠ gb310)); clear BK310; clear HB; have BK310 := n0_; have HB := n1_; have BK311 := n2_; have GW311 := n3_; have GE311 := n4_; have NB310_311 := n5_; have NB311_310 := n6_; clear n0_ n1_ n2_ n3_ n4_ n5_ n6_; clear hb hbox hg; have hnb7 := NB310_311.out; have hnc7 := NB311_310.out; have hcz8_0 : w6.cell? ⟨gb310, 0, none⟩ = some (.slice A0_0 l0_0.length c0_0) := (blk_cell BK310.out 0).trans rfl; have hcz8_1 : w6.cell? ⟨gb310, 1, none⟩ = some (.slice A0_1 l0_1.length c0_1) := (blk_cell BK310.out 1).trans rfl; have hcz8_2 : w6.cell? ⟨gb310, 2, none⟩ = some (.slice A0_2 l0_2.length c0_2) := (blk_cell BK310.out 2).trans rfl; have hcz8_3 : w6.cell? ⟨gb310, 3, none⟩ = some (.slice A0_3 l0_3.length c0_3) := (blk_cell BK310.out 3).trans rfl; have hcz8_4 : w6.cell? ⟨gb310, 4, none⟩ = some (.slice A0_4 l0_4.length c0_4) := (blk_cell BK310.out 4).trans rfl; have hcz8_5 : w6.cell? ⟨gb310, 5, none⟩ = some (.int .i64 a0_5) := (blk_cell BK310.out 5).trans rfl; have hcz8_6 : w6.cell? ⟨gb310, 6, none⟩ = some (.int .i64 a0_6) := (blk_cell BK310.out 6).trans rfl; have hfz8_0 := blk_frozen BK310.out 0; have hfz8_1 := blk_frozen BK310.out 1; have hfz8_2 := blk_frozen BK310.out 2; have hfz8_3 := blk_frozen BK310.out 3; have hfz8_4 := blk_frozen BK310.out 4; have hfz8_5 := blk_frozen BK310.out 5; have hfz8_6 := blk_frozen BK310.out 6) | ((with_reducible refine gate_dst (N := 3) rfl ?_); refine box_event ?hg (N := 3) ?hd (cs := #[.slice none 0 0, .slice none 0 0, .slice none 0 0, .slice none 0 0, .slice none 0 0, .int .i64 0, .int .i64 0]) (t := 32) ?hr ?_; (case hd => rfl); (case hg => rfl); (case hr => first | (go_simp; done) | (go_simp; rfl)); intro gb312 hg w9 hbox hb; have n0_ := Aside0.mk (blk_below (g := gb310) (o := .cells #[.slice A0_0 l0_0.length c0_0, .slice A0_1 l0_1.length c0_1, .slice A0_2 l0_2.length c0_2, .slice A0_3 l0_3.length c0_3, .slice A0_4 l0_4.length c0_4, .int .i64 a0_5, .int .i64 a0_6] 32 (0, 0)) (by (with_reducible repeat (first | refine blk_drewN ?_ _ | refine blk_drew ?_ | refine blk_alloc ?_ _)); exact BK310.out) hb); have n1_ := Aside0.mk (blk_below (g := gb311) (o := .cells #[.slice none 0 0, .slice none 0 0, .slice none 0 0, .slice none 0 0, .slice none 0 0, .int .i64 0, .int .i64 0] 32 (0, 0)) (by (with_reducible repeat (first | refine blk_drewN ?_ _ | refine blk_drew ?_ | refine blk_alloc ?_ _)); exact BK311.out) hb); have n2_ := Aside0.mk (below_step (by repeat (first | (with_reducible first | exact HB.out | apply below_alloc | apply pw_below_drewN | apply below_drew1 | refine below_set ?_ GE310.out | refine below_set ?_ GE311.out) | exact HB.out)) hb); have n3_ := Aside0.mk (hbox); have n4_ := Aside0.mk ((by rw [hg]; exact (below_size (by repeat (first | (with_reducible first | exact HB.out | apply below_alloc | apply pw_below_drewN | apply below_drew1 | refine below_set ?_ GE310.out | refine below_set ?_ GE311.out) | exact HB.out))) : w.heap.size ≤ gb312)); have n5_ := Aside0.mk ((by rw [hg]; exact (below_size (by repeat (first | (with_reducible first | exact HB.out | apply below_alloc | apply pw_below_drewN | apply below_drew1 | refine below_set ?_ GE310.out | refine below_set ?_ GE311.out) | exact HB.out))) : w.heap.size ≤ gb312)); have n6_ := Aside0.mk ((by rw [hg]; exact Nat.ne_of_lt (blk_lt (g := gb310) (o := .cells #[.slice A0_0 l0_0.length c0_0, .slice A0_1 l0_1.length c0_1, .slice A0_2 l0_2.length c0_2, .slice A0_3 l0_3.length c0_3, .slice A0_4 l0_4.length c0_4, .int .i64 a0_5, .int .i64 a0_6] 32 (0, 0)) (by (with_reducible repeat (first | refine blk_drewN ?_ _ | refine blk_drew ?_ | refine blk_alloc ?_ _)); exact BK310.out)) : gb310 ≠ gb312)); have n7_ := Aside0.mk ((by rw [hg]; exact Nat.ne_of_gt (blk_lt (g := gb310) (o := .cells #[.slice A0_0 l0_0.length c0_0, .slice A0_1 l0_1.length c0_1, .slice A0_2 l0_2.length c0_2, .slice A0_3 l0_3.length c0_3, .slice A0_4 l0_4.length c0_4, .int .i64 a0_5, .int .i64 a0_6] 32 (0, 0)) (by (with_reducible repeat (first | refine blk_drewN ?_ _ | refine blk_drew ?_ | refine blk_alloc ?_ _)); exact BK310.out)) : gb312 ≠ gb310)); have n8_ := Aside0.mk ((by rw [hg]; exact Nat.ne_of_lt (blk_lt (g := gb311) (o := .cells #[.slice none 0 0, .slice none 0 0, .slice none 0 0, .slice none 0 0, .slice none 0 0, .int .i64 0, .int .i64 0] 32 (0, 0)) (by (with_reducible repeat (first | refine blk_drewN ?_ _ | refine blk_drew ?_ | refine blk_alloc ?_ _)); exact BK311.out)) : gb311 ≠ gb312)); have n9_ := Aside0.mk ((by rw [hg]; exact Nat.ne_of_gt (blk_lt (g := gb311) (o := .cells #[.slice none 0 0, .slice none 0 0, .slice none 0 0, .slice none 0 0, .slice none 0 0, .int .i64 0, .int .i64 0] 32 (0, 0)) (by (with_reducible repeat (first | refine blk_drewN ?_ _ | refine blk_drew ?_ | refine blk_alloc ?_ _)); exact BK311.out)) : gb312 ≠ gb311)); clear BK310; clear BK311; clear HB; have BK310 := n0_; have BK311 := n1_; have HB := n2_; have BK312 := n3_; have GW312 := n4_; have GE312 := n5_; have NB310_312 := n6_; have NB312_310 := n7_; have NB311_312 := n8_; have NB312_311 := n9_; clear n0_ n1_ n2_ n3_ n4_ n5_ n6_ n7_ n8_ n9_; clear hb hbox hg; have hnb10 := NB312_310.out; have hnc10 := NB310_312.out; have hnb11 := NB312_311.out; have hnc11 := NB311_312.out; have hcz12_0 : w9.cell? ⟨gb312, 0, none⟩ = some (.slice none 0 0) := (blk_cell BK312.out 0).trans rfl; have hcz12_1 : w9.cell? ⟨gb312, 1, none⟩ = some (.slice none 0 0) := (blk_cell BK312.out 1).trans rfl; have hcz12_2 : w9.cell? ⟨gb312, 2, none⟩ = some (.slice none 0 0) := (blk_cell BK312.out 2).trans rfl; have hcz12_3 : w9.cell? ⟨gb312, 3, none⟩ = some (.slice none 0 0) := (blk_cell BK312.out 3).trans rfl; have hcz12_4 : w9.cell? ⟨gb312, 4, none⟩ = some (.slice none 0 0) := (blk_cell BK312.out 4).trans rfl; have hcz12_5 : w9.cell? ⟨gb312, 5, none⟩ = some (.int .i64 0) := (blk_cell BK312.out 5).trans rfl; have hcz12_6 : w9.cell? ⟨gb312, 6, none⟩ = some (.int .i64 0) := (blk_cell BK312.out 6).trans rfl; have hfz12_0 := blk_frozen BK312.out 0; have hfz12_1 := blk_frozen BK312.out 1; have hfz12_2 := blk_frozen BK312.out 2; have hfz12_3 := blk_frozen BK312.out 3; have hfz12_4 := blk_frozen BK312.out 4; have hfz12_5 := blk_frozen BK312.out 5; have hfz12_6 := blk_frozen BK312.out 6; have hcz13_0 : w9.cell? ⟨gb310, 0, none⟩ = some (.slice A0_0 l0_0.length c0_0) := (blk_cell BK310.out 0).trans rfl; have hcz13_1 : w9.cell? ⟨gb310, 1, none⟩ = some (.slice A0_1 l0_1.length c0_1) := (blk_cell BK310.out 1).trans rfl; have hcz13_2 : w9.cell? ⟨gb310, 2, none⟩ = some (.slice A0_2 l0_2.length c0_2) := (blk_cell BK310.out 2).trans rfl; have hcz13_3 : w9.cell? ⟨gb310, 3, none⟩ = some (.slice A0_3 l0_3.length c0_3) := (blk_cell BK310.out 3).trans rfl; have hcz13_4 : w9.cell? ⟨gb310, 4, none⟩ = some (.slice A0_4 l0_4.length c0_4) := (blk_cell BK310.out 4).trans rfl; have hcz13_5 : w9.cell? ⟨gb310, 5, none⟩ = some (.int .i64 a0_5) := (blk_cell BK310.out 5).trans rfl; have hcz13_6 : w9.cell? ⟨gb310, 6, none⟩ = some (.int .i64 a0_6) := (blk_cell BK310.out 6).trans rfl; have hfz13_0 := blk_frozen BK310.out 0; have hfz13_1 := blk_frozen BK310.out 1; have hfz13_2 := blk_frozen BK310.out 2; have hfz13_3 := blk_frozen BK310.out 3; have hfz13_4 := blk_frozen BK310.out 4; have hfz13_5 := blk_frozen BK310.out 5; have hfz13_6 := blk_frozen BK310.out 6) | ((with_reducible refine gate_builtin (b := .append) (xs := #[.tmp 12, .tmp 14]) rfl ?_); at_builtin; refine Kd.R_append_rows Kd.string (w0 := w) w.heap.size rfl (.tmp 12) (.tmp 14) 26 9 (.string ⟨#[]⟩) 16 rfl Try.underlying26 info9 rfl (by decide) (by omega) (.slice none 0 0) ([] : List ByteArray) l0_0 _ _ _ (fun _ => True) (fun _ => False) rfl rfl ?aO ?aR (fun _ _ h => h) (fun _ h => h.elim) ?aF ?aB ?aS ?aL ?_; (case aR => exact Kd.C_below HR0_0.out (by repeat (first | (with_reducible first | exact HB.out | apply below_alloc | apply pw_below_drewN | apply below_drew1 | refine below_set ?_ GE310.out | refine below_set ?_ GE311.out | refine below_set ?_ GE312.out) | exact HB.out))); (case aB => exact (by repeat (first | (with_reducible first | exact HB.out | apply below_alloc | apply pw_below_drewN | apply below_drew1 | refine below_set ?_ GE310.out | refine below_set ?_ GE311.out | refine below_set ?_ GE312.out) | exact HB.out))); (case aF => exact (fun _ _ => trivial)); (case aO => exact ((Kd.R_nil _ _ _ _ (fun _ => True)))); (case aS => exact (below_size (by repeat (first | (with_reducible first | exact HB.out | apply below_alloc | apply pw_below_drewN | apply below_drew1 | refine below_set ?_ GE310.out | refine below_set ?_ GE311.out | refine below_set ?_ GE312.out) | exact HB.out)))); (case aL => have := LMc2.out; omega); intro v314 w14 ho hb hg hat; rw [← Ny313.out] at ho; have n0_ := Aside0.mk (blk_grown (g := gb310) (o := .cells #[.slice A0_0 l0_0.length c0_0, .slice A0_1 l0_1.length c0_1, .slice A0_2 l0_2.length c0_2, .slice A0_3 l0_3.length c0_3, .slice A0_4 l0_4.length c0_4, .int .i64 a0_5, .int .i64 a0_6] 32 (0, 0)) (by (with_reducible repeat (first | refine blk_drewN ?_ _ | refine blk_drew ?_ | refine blk_alloc ?_ _)); refine blk_far ?_ NB310_312.out _; (with_reducible repeat (first | refine blk_drewN ?_ _ | refine blk_drew ?_ | refine blk_alloc ?_ _)); refine blk_far ?_ NB310_312.out _; (with_reducible repeat (first | refine blk_drewN ?_ _ | refine blk_drew ?_ | refine blk_alloc ?_ _)); refine blk_far ?_ NB310_312.out _; (with_reducible repeat (first | refine blk_drewN ?_ _ | refine blk_drew ?_ | refine blk_alloc ?_ _)); refine blk_far ?_ NB310_312.out _; (with_reducible repeat (first | refine blk_drewN ?_ _ | refine blk_drew ?_ | refine blk_alloc ?_ _)); refine blk_far ?_ NB310_312.out _; (with_reducible repeat (first | refine blk_drewN ?_ _ | refine blk_drew ?_ | refine blk_alloc ?_ _)); refine blk_far ?_ NB310_312.out _; (with_reducible repeat (first | refine blk_drewN ?_ _ | refine blk_drew ?_ | refine blk_alloc ?_ _)); refine blk_far ?_ NB310_312.out _; (with_reducible repeat (first | refine blk_drewN ?_ _ | refine blk_drew ?_ | refine blk_alloc ?_ _)); exact BK310.out) hg (by simp [Value.ownBlock])); have n1_ := Aside0.mk (blk_grown (g := gb311) (o := .cells #[.slice none 0 0, .slice none 0 0, .slice none 0 0, .slice none 0 0, .slice none 0 0, .int .i64 0, .int .i64 0] 32 (0, 0)) (by (with_reducible repeat (first | refine blk_drewN ?_ _ | refine blk_drew ?_ | refine blk_alloc ?_ _)); refine blk_far ?_ NB311_312.out _; (with_reducible repeat (first | refine blk_drewN ?_ _ | refine blk_drew ?_ | refine blk_alloc ?_ _)); refine blk_far ?_ NB311_312.out _; (with_reducible repeat (first | refine blk_drewN ?_ _ | refine blk_drew ?_ | refine blk_alloc ?_ _)); refine blk_far ?_ NB311_312.out _; (with_reducible repeat (first | refine blk_drewN ?_ _ | refine blk_drew ?_ | refine blk_alloc ?_ _)); refine blk_far ?_ NB311_312.out _; (with_reducible repeat (first | refine blk_drewN ?_ _ | refine blk_drew ?_ | refine blk_alloc ?_ _)); refine blk_far ?_ NB311_312.out _; (with_reducible repeat (first | refine blk_drewN ?_ _ | refine blk_drew ?_ | refine blk_alloc ?_ _)); refine blk_far ?_ NB311_312.out _; (with_reducible repeat (first | refine blk_drewN ?_ _ | refine blk_drew ?_ | refine blk_alloc ?_ _)); refine blk_far ?_ NB311_312.out _; (with_reducible repeat (first | refine blk_drewN ?_ _ | refine blk_drew ?_ | refine blk_alloc ?_ _)); exact BK311.out) hg (by simp [Value.ownBlock])); have n2_ := Aside0.mk (blk_grown (g := gb312) (o := .cells #[.slice none 0 0, .slice none 0 0, .slice none 0 0, .slice none 0 0, .slice none 0 0, .int .i64 a0_5, .int .i64 a0_6] 32 (0, 0)) (by (with_reducible repeat (first | refine blk_drewN ?_ _ | refine blk_drew ?_ | refine blk_alloc ?_ _)); refine blk_put (cs := #[.slice none 0 0, .slice none 0 0, .slice none 0 0, .slice none 0 0, .slice none 0 0, .int .i64 a0_5, .int .i64 0]) ?_ 6 _ rfl; (with_reducible repeat (first | refine blk_drewN ?_ _ | refine blk_drew ?_ | refine blk_alloc ?_ _)); refine blk_put (cs := #[.slice none 0 0, .slice none 0 0, .slice none 0 0, .slice none 0 0, .slice none 0 0, .int .i64 0, .int .i64 0]) ?_ 5 _ rfl; (with_reducible repeat (first | refine blk_drewN ?_ _ | refine blk_drew ?_ | refine blk_alloc ?_ _)); refine blk_put (cs := #[.slice none 0 0, .slice none 0 0, .slice none 0 0, .slice none 0 0, .slice none 0 0, .int .i64 0, .int .i64 0]) ?_ 4 _ rfl; (with_reducible repeat (first | refine blk_drewN ?_ _ | refine blk_drew ?_ | refine blk_alloc ?_ _)); refine blk_put (cs := #[.slice none 0 0, .slice none 0 0, .slice none 0 0, .slice none 0 0, .slice none 0 0, .int .i64 0, .int .i64 0]) ?_ 3 _ rfl; (with_reducible repeat (first | refine blk_drewN ?_ _ | refine blk_drew ?_ | refine blk_alloc ?_ _)); refine blk_put (cs := #[.slice none 0 0, .slice none 0 0, .slice none 0 0, .slice none 0 0, .slice none 0 0, .int .i64 0, .int .i64 0]) ?_ 2 _ rfl; (with_reducible repeat (first | refine blk_drewN ?_ _ | refine blk_drew ?_ | refine blk_alloc ?_ _)); refine blk_put (cs := #[.slice none 0 0, .slice none 0 0, .slice none 0 0, .slice none 0 0, .slice none 0 0, .int .i64 0, .int .i64 0]) ?_ 1 _ rfl; (with_reducible repeat (first | refine blk_drewN ?_ _ | refine blk_drew ?_ | refine blk_alloc ?_ _)); refine blk_put (cs := #[.slice none 0 0, .slice none 0 0, .slice none 0 0, .slice none 0 0, .slice none 0 0, .int .i64 0, .int .i64 0]) ?_ 0 _ rfl; (with_reducible repeat (first | refine blk_drewN ?_ _ | refine blk_drew ?_ | refine blk_alloc ?_ _)); exact BK312.out) hg (by simp [Value.ownBlock])); have n3_ := Aside0.mk (hb); have n4_ := Aside0.mk (ho); clear BK310; clear BK311; clear BK312; clear HB; have BK310 := n0_; have BK311 := n1_; have BK312 := n2_; have HB := n3_; have HO315 := n4_; clear n0_ n1_ n2_ n3_ n4_; clear ho hb hg hat; obtain ⟨Ao15, co15, eo15⟩ := Kd.R_slice HO315.out; subst eo15; have hcz16_0 : w14.cell? ⟨gb312, 0, none⟩ = some (.slice none 0 0) := (blk_cell BK312.out 0).trans rfl; have hcz16_1 : w14.cell? ⟨gb312, 1, none⟩ = some (.slice none 0 0) := (blk_cell BK312.out 1).trans rfl; have hcz16_2 : w14.cell? ⟨gb312, 2, none⟩ = some (.slice none 0 0) := (blk_cell BK312.out 2).trans rfl; have hcz16_3 : w14.cell? ⟨gb312, 3, none⟩ = some (.slice none 0 0) := (blk_cell BK312.out 3).trans rfl; have hcz16_4 : w14.cell? ⟨gb312, 4, none⟩ = some (.slice none 0 0) := (blk_cell BK312.out 4).trans rfl; have hcz16_5 : w14.cell? ⟨gb312, 5, none⟩ = some (.int .i64 a0_5) := (blk_cell BK312.out 5).trans rfl; have hcz16_6 : w14.cell? ⟨gb312, 6, none⟩ = some (.int .i64 a0_6) := (blk_cell BK312.out 6).trans rfl; have hfz16_0 := blk_frozen BK312.out 0; have hfz16_1 := blk_frozen BK312.out 1; have hfz16_2 := blk_frozen BK312.out 2; have hfz16_3 := blk_frozen BK312.out 3; have hfz16_4 := blk_frozen BK312.out 4; have hfz16_5 := blk_frozen BK312.out 5; have hfz16_6 := blk_frozen BK312.out 6; have hcz17_0 : w14.cell? ⟨gb310, 0, none⟩ = some (.slice A0_0 l0_0.length c0_0) := (blk_cell BK310.out 0).trans rfl; have hcz17_1 : w14.cell? ⟨gb310, 1, none⟩ = some (.slice A0_1 l0_1.length c0_1) := (blk_cell BK310.out 1).trans rfl; have hcz17_2 : w14.cell? ⟨gb310, 2, none⟩ = some (.slice A0_2 l0_2.length c0_2) := (blk_cell BK310.out 2).trans rfl; have hcz17_3 : w14.cell? ⟨gb310, 3, none⟩ = some (.slice A0_3 l0_3.length c0_3) := (blk_cell BK310.out 3).trans rfl; have hcz17_4 : w14.cell? ⟨gb310, 4, none⟩ = some (.slice A0_4 l0_4.length c0_4) := (blk_cell BK310.out 4).trans rfl; have hcz17_5 : w14.cell? ⟨gb310, 5, none⟩ = some (.int .i64 a0_5) := (blk_cell BK310.out 5).trans rfl; have hcz17_6 : w14.cell? ⟨gb310, 6, none⟩ = some (.int .i64 a0_6) := (blk_cell BK310.out 6).trans rfl; have hfz17_0 := blk_frozen BK310.out 0; have hfz17_1 := blk_frozen BK310.out 1; have hfz17_2 := blk_frozen BK310.out 2; have hfz17_3 := blk_frozen BK310.out 3; have hfz17_4 := blk_frozen BK310.out 4; have hfz17_5 := blk_frozen BK310.out 5; have hfz17_6 := blk_frozen BK310.out 6) | ((with_reducible refine gate_builtin (b := .append) (xs := #[.tmp 18, .tmp 20]) rfl ?_); at_builtin; refine Kd.R_append_rows (Kd.int .i64) (w0 := w) w.heap.size rfl (.tmp 18) (.tmp 20) 27 3 (.int .i64 0) 8 rfl Try.underlying27 info3 rfl (by decide) (by omega) (.slice none 0 0) ([] : List Int) l0_1 _ _ _ (fun _ => True) (fun _ => False) rfl rfl ?aO ?aR (fun _ _ h => h) (fun _ h => h.elim) ?aF ?aB ?aS ?aL ?_; (case aR => exact Kd.C_below HR0_1.out (by repeat (first | (with_reducible first | exact HB.out | apply below_alloc | apply pw_below_drewN | apply below_drew1 | refine below_set ?_ GE310.out | refine below_set ?_ GE311.out | refine below_set ?_ GE312.out) | exact HB.out))); (case aB => exact (by repeat (first | (with_reducible first | exact HB.out | apply below_alloc | apply pw_below_drewN | apply below_drew1 | refine below_set ?_ GE310.out | refine below_set ?_ GE311.out | refine below_set ?_ GE312.out) | exact HB.out))); (case aF => exact (fun _ _ => trivial)); (case aO => exact ((Kd.R_nil _ _ _ _ (fun _ => True)))); (case aS => exact (below_size (by repeat (first | (with_reducible first | exact HB.out | apply below_alloc | apply pw_below_drewN | apply below_drew1 | refine below_set ?_ GE310.out | refine below_set ?_ GE311.out | refine below_set ?_ GE312.out) | exact HB.out)))); (case aL => have := LMc3.out; omega); intro v317 w18 ho hb hg hat; rw [← Ny316.out] at ho; have n0_ := Aside0.mk (blk_grown (g := gb310) (o := .cells #[.slice A0_0 l0_0.length c0_0, .slice A0_1 l0_1.length c0_1, .slice A0_2 l0_2.length c0_2, .slice A0_3 l0_3.length c0_3, .slice A0_4 l0_4.length c0_4, .int .i64 a0_5, .int .i64 a0_6] 32 (0, 0)) (by (with_reducible repeat (first | refine blk_drewN ?_ _ | refine blk_drew ?_ | refine blk_alloc ?_ _)); refine blk_far ?_ NB310_312.out _; (with_reducible repeat (first | refine blk_drewN ?_ _ | refine blk_drew ?_ | refine blk_alloc ?_ _)); exact BK310.out) hg (by simp [Value.ownBlock])); have n1_ := Aside0.mk (blk_grown (g := gb311) (o := .cells #[.slice none 0 0, .slice none 0 0, .slice none 0 0, .slice none 0 0, .slice none 0 0, .int .i64 0, .int .i64 0] 32 (0, 0)) (by (with_reducible repeat (first | refine blk_drewN ?_ _ | refine blk_drew ?_ | refine blk_alloc ?_ _)); refine blk_far ?_ NB311_312.out _; (with_reducible repeat (first | refine blk_drewN ?_ _ | refine blk_drew ?_ | refine blk_alloc ?_ _)); exact BK311.out) hg (by simp [Value.ownBlock])); have n2_ := Aside0.mk (blk_grown (g := gb312) (o := .cells #[.slice Ao15 y313.length co15, .slice none 0 0, .slice none 0 0, .slice none 0 0, .slice none 0 0, .int .i64 a0_5, .int .i64 a0_6] 32 (0, 0)) (by (with_reducible repeat (first | refine blk_drewN ?_ _ | refine blk_drew ?_ | refine blk_alloc ?_ _)); refine blk_put (cs := #[.slice none 0 0, .slice none 0 0, .slice none 0 0, .slice none 0 0, .slice none 0 0, .int .i64 a0_5, .int .i64 a0_6]) ?_ 0 _ rfl; (with_reducible repeat (first | refine blk_drewN ?_ _ | refine blk_drew ?_ | refine blk_alloc ?_ _)); exact BK312.out) hg (by simp [Value.ownBlock])); have n3_ := Aside0.mk (Kd.R_grown (by (with_reducible repeat (first | apply Kd.R_alloc | apply Kd.R_drewN | apply Kd.R_drew)); exact (Kd.R_mono (Kd.R_far (p := ⟨gb312, 0, none⟩) (Kd.R_types HO315.out BK312.out (by decide)) (fun _ hk => hk.2) (.slice Ao15 y313.length co15)) (fun _ h_ => h_.1))) hg (fun _ _ => by simp [Value.ownBlock])); have n4_ := Aside0.mk (hb); have n5_ := Aside0.mk (ho); clear BK310; clear BK311; clear BK312; clear HO315; clear HB; have BK310 := n0_; have BK311 := n1_; have BK312 := n2_; have HO315 := n3_; have HB := n4_; have HO318 := n5_; clear n0_ n1_ n2_ n3_ n4_ n5_; clear ho hb hg hat; obtain ⟨Ao19, co19, eo19⟩ := Kd.R_slice HO318.out; subst eo19; have hcz20_0 : w18.cell? ⟨gb312, 0, none⟩ = some (.slice Ao15 y313.length co15) := (blk_cell BK312.out 0).trans rfl; have hcz20_1 : w18.cell? ⟨gb312, 1, none⟩ = some (.slice none 0 0) := (blk_cell BK312.out 1).trans rfl; have hcz20_2 : w18.cell? ⟨gb312, 2, none⟩ = some (.slice none 0 0) := (blk_cell BK312.out 2).trans rfl; have hcz20_3 : w18.cell? ⟨gb312, 3, none⟩ = some (.slice none 0 0) := (blk_cell BK312.out 3).trans rfl; have hcz20_4 : w18.cell? ⟨gb312, 4, none⟩ = some (.slice none 0 0) := (blk_cell BK312.out 4).trans rfl; have hcz20_5 : w18.cell? ⟨gb312, 5, none⟩ = some (.int .i64 a0_5) := (blk_cell BK312.out 5).trans rfl; have hcz20_6 : w18.cell? ⟨gb312, 6, none⟩ = some (.int .i64 a0_6) := (blk_cell BK312.out 6).trans rfl; have hfz20_0 := blk_frozen BK312.out 0; have hfz20_1 := blk_frozen BK312.out 1; have hfz20_2 := blk_frozen BK312.out 2; have hfz20_3 := blk_frozen BK312.out 3; have hfz20_4 := blk_frozen BK312.out 4; have hfz20_5 := blk_frozen BK312.out 5; have hfz20_6 := blk_frozen BK312.out 6; have hcz21_0 : w18.cell? ⟨gb310, 0, none⟩ = some (.slice A0_0 l0_0.length c0_0) := (blk_cell BK310.out 0).trans rfl; have hcz21_1 : w18.cell? ⟨gb310, 1, none⟩ = some (.slice A0_1 l0_1.length c0_1) := (blk_cell BK310.out 1).trans rfl; have hcz21_2 : w18.cell? ⟨gb310, 2, none⟩ = some (.slice A0_2 l0_2.length c0_2) := (blk_cell BK310.out 2).trans rfl; have hcz21_3 : w18.cell? ⟨gb310, 3, none⟩ = some (.slice A0_3 l0_3.length c0_3) := (blk_cell BK310.out 3).trans rfl; have hcz21_4 : w18.cell? ⟨gb310, 4, none⟩ = some (.slice A0_4 l0_4.length c0_4) := (blk_cell BK310.out 4).trans rfl; have hcz21_5 : w18.cell? ⟨gb310, 5, none⟩ = some (.int .i64 a0_5) := (blk_cell BK310.out 5).trans rfl; have hcz21_6 : w18.cell? ⟨gb310, 6, none⟩ = some (.int .i64 a0_6) := (blk_cell BK310.out 6).trans rfl; have hfz21_0 := blk_frozen BK310.out 0; have hfz21_1 := blk_frozen BK310.out 1; have hfz21_2 := blk_frozen BK310.out 2; have hfz21_3 := blk_frozen BK310.out 3; have hfz21_4 := blk_frozen BK310.out 4; have hfz21_5 := blk_frozen BK310.out 5; have hfz21_6 := blk_frozen BK310.out 6) | ((with_reducible refine gate_builtin (b := .append) (xs := #[.tmp 24, .tmp 26]) rfl ?_); at_builtin; refine Kd.R_append_rows k74 (w0 := w) w.heap.size rfl (.tmp 24) (.tmp 26) 30 74 (.agg #[(.int .i64 0), (.int .i64 0), (.int .i64 0), (.int .i64 0)]) 32 rfl Try.underlying30 info74 rfl (by decide) (by omega) (.slice none 0 0) ([] : List (S74)) l0_4 _ _ _ (fun _ => True) (fun _ => False) rfl rfl ?aO ?aR (fun _ _ h => h) (fun _ h => h.elim) ?aF ?aB ?aS ?aL ?_; (case aR => exact Kd.C_below HR0_4.out (by repeat (first | (with_reducible first | exact HB.out | apply below_alloc | apply pw_below_drewN | apply below_drew1 | refine below_set ?_ GE310.out | refine below_set ?_ GE311.out | refine below_set ?_ GE312.out) | exact HB.out))); (case aB => exact (by repeat (first | (with_reducible first | exact HB.out | apply below_alloc | apply pw_below_drewN | apply below_drew1 | refine below_set ?_ GE310.out | refine below_set ?_ GE311.out | refine below_set ?_ GE312.out) | exact HB.out))); (case aF => exact (fun _ _ => trivial)); (case aO => exact ((Kd.R_nil _ _ _ _ (fun _ => True)))); (case aS => exact (below_size (by repeat (first | (with_reducible first | exact HB.out | apply below_alloc | apply pw_below_drewN | apply below_drew1 | refine below_set ?_ GE310.out | refine below_set ?_ GE311.out | refine below_set ?_ GE312.out) | exact HB.out)))); (case aL => have := LMc4.out; omega); intro v320 w22 ho hb hg hat; rw [← Ny319.out] at ho; have n0_ := Aside0.mk (blk_grown (g := gb310) (o := .cells #[.slice A0_0 l0_0.length c0_0, .slice A0_1 l0_1.length c0_1, .slice A0_2 l0_2.length c0_2, .slice A0_3 l0_3.length c0_3, .slice A0_4 l0_4.length c0_4, .int .i64 a0_5, .int .i64 a0_6] 32 (0, 0)) (by (with_reducible repeat (first | refine blk_drewN ?_ _ | refine blk_drew ?_ | refine blk_alloc ?_ _)); refine blk_far ?_ NB310_312.out _; (with_reducible repeat (first | refine blk_drewN ?_ _ | refine blk_drew ?_ | refine blk_alloc ?_ _)); exact BK310.out) hg (by simp [Value.ownBlock])); have n1_ := Aside0.mk (blk_grown (g := gb311) (o := .cells #[.slice none 0 0, .slice none 0 0, .slice none 0 0, .slice none 0 0, .slice none 0 0, .int .i64 0, .int .i64 0] 32 (0, 0)) (by (with_reducible repeat (first | refine blk_drewN ?_ _ | refine blk_drew ?_ | refine blk_alloc ?_ _)); refine blk_far ?_ NB311_312.out _; (with_reducible repeat (first | refine blk_drewN ?_ _ | refine blk_drew ?_ | refine blk_alloc ?_ _)); exact BK311.out) hg (by simp [Value.ownBlock])); have n2_ := Aside0.mk (blk_grown (g := gb312) (o := .cells #[.slice Ao15 y313.length co15, .slice Ao19 y316.length co19, .slice none 0 0, .slice none 0 0, .slice none 0 0, .int .i64 a0_5, .int .i64 a0_6] 32 (0, 0)) (by (with_reducible repeat (first | refine blk_drewN ?_ _ | refine blk_drew ?_ | refine blk_alloc ?_ _)); refine blk_put (cs := #[.slice Ao15 y313.length co15, .slice none 0 0, .slice none 0 0, .slice none 0 0, .slice none 0 0, .int .i64 a0_5, .int .i64 a0_6]) ?_ 1 _ rfl; (with_reducible repeat (first | refine blk_drewN ?_ _ | refine blk_drew ?_ | refine blk_alloc ?_ _)); exact BK312.out) hg (by simp [Value.ownBlock])); have n3_ := Aside0.mk (Kd.R_grown (by (with_reducible repeat (first | apply Kd.R_alloc | apply Kd.R_drewN | apply Kd.R_drew)); exact (Kd.R_mono (Kd.R_far (p := ⟨gb312, 1, none⟩) (Kd.R_types HO315.out BK312.out (by decide)) (fun _ hk => hk.2) (.slice Ao19 y316.length co19)) (fun _ h_ => h_.1))) hg (fun _ _ => by simp [Value.ownBlock])); have n4_ := Aside0.mk (Kd.R_grown (by (with_reducible repeat (first | apply Kd.R_alloc | apply Kd.R_drewN | apply Kd.R_drew)); exact (Kd.R_mono (Kd.R_far (p := ⟨gb312, 1, none⟩) (Kd.R_types HO318.out BK312.out (by decide)) (fun _ hk => hk.2) (.slice Ao19 y316.length co19)) (fun _ h_ => h_.1))) hg (fun _ _ => by simp [Value.ownBlock])); have n5_ := Aside0.mk (hb); have n6_ := Aside0.mk (ho); clear BK310; clear BK311; clear BK312; clear HO315; clear HO318; clear HB; have BK310 := n0_; have BK311 := n1_; have BK312 := n2_; have HO315 := n3_; have HO318 := n4_; have HB := n5_; have HO321 := n6_; clear n0_ n1_ n2_ n3_ n4_ n5_ n6_; clear ho hb hg hat; obtain ⟨Ao23, co23, eo23⟩ := Kd.R_slice HO321.out; subst eo23; have hcz24_0 : w22.cell? ⟨gb312, 0, none⟩ = some (.slice Ao15 y313.length co15) := (blk_cell BK312.out 0).trans rfl; have hcz24_1 : w22.cell? ⟨gb312, 1, none⟩ = some (.slice Ao19 y316.length co19) := (blk_cell BK312.out 1).trans rfl; have hcz24_2 : w22.cell? ⟨gb312, 2, none⟩ = some (.slice none 0 0) := (blk_cell BK312.out 2).trans rfl; have hcz24_3 : w22.cell? ⟨gb312, 3, none⟩ = some (.slice none 0 0) := (blk_cell BK312.out 3).trans rfl; have hcz24_4 : w22.cell? ⟨gb312, 4, none⟩ = some (.slice none 0 0) := (blk_cell BK312.out 4).trans rfl; have hcz24_5 : w22.cell? ⟨gb312, 5, none⟩ = some (.int .i64 a0_5) := (blk_cell BK312.out 5).trans rfl; have hcz24_6 : w22.cell? ⟨gb312, 6, none⟩ = some (.int .i64 a0_6) := (blk_cell BK312.out 6).trans rfl; have hfz24_0 := blk_frozen BK312.out 0; have hfz24_1 := blk_frozen BK312.out 1; have hfz24_2 := blk_frozen BK312.out 2; have hfz24_3 := blk_frozen BK312.out 3; have hfz24_4 := blk_frozen BK312.out 4; have hfz24_5 := blk_frozen BK312.out 5; have hfz24_6 := blk_frozen BK312.out 6))
    go_loopg [4] k (fun kq v4 w' => ∃ (x4_1 : Int) (x313002_1 : List (List ByteArray)) (u313002 : Value), v4 = .int .i64 x4_1 ∧ Aside0 (berthref20_Copy.l0 kq x4_1 l0_0 l0_1 l0_2 l0_3 l0_4 a0_5 a0_6 y313 y316 x313002_1 y319 a0_5 a0_6 = some (r1, r2, r3, r4, r5, r6, r7)) ∧ Aside0 (kq ≤ k) ∧ Aside0 (Kd.R Kd.string 9 w' w.heap.size (fun _ => True) (.slice Ao15 y313.length co15) y313) ∧ Aside0 (Kd.R (Kd.int .i64) 3 w' w.heap.size (fun _ => True) (.slice Ao19 y316.length co19) y316) ∧ Aside0 (Kd.S (Kd.slice 9 Kd.string) 26 w' w.heap.size (fun k_ => some k_ ≠ ((.slice Ao15 y313.length co15) : Value).ownBlock) u313002 x313002_1) ∧ Aside0 (Kd.R k74 74 w' w.heap.size (fun _ => True) (.slice Ao23 y319.length co23) y319) ∧ Aside0 (w'.heap[gb310]? = some (.cells #[(.slice A0_0 l0_0.length c0_0), (.slice A0_1 l0_1.length c0_1), (.slice A0_2 l0_2.length c0_2), (.slice A0_3 l0_3.length c0_3), (.slice A0_4 l0_4.length c0_4), .int .i64 a0_5, .int .i64 a0_6] 32 (0, 0))) ∧ Aside0 (w'.heap[gb311]? = some (.cells #[(.slice none 0 0), (.slice none 0 0), (.slice none 0 0), (.slice none 0 0), (.slice none 0 0), .int .i64 0, .int .i64 0] 32 (0, 0))) ∧ Aside0 (w'.heap[gb312]? = some (.cells #[(.slice Ao15 y313.length co15), (.slice Ao19 y316.length co19), u313002, (.slice none 0 0), (.slice Ao23 y319.length co23), .int .i64 a0_5, .int .i64 a0_6] 32 (0, 0))) ∧ Aside0 (Below w.heap.size w w'))
    case atStart => exact ⟨(0), (([] : List (List ByteArray))), (.slice none 0 0), (by first | rfl | (simp; done) | (simp [*]; done) | (simp only [i64_w]; done) | (simp [i64_w, Int.tdiv_eq_ediv_of_nonneg]; done)), H', ⟨Nat.le_refl _⟩, ⟨by (with_reducible repeat (first | apply Kd.R_alloc | apply Kd.R_drewN | apply Kd.R_drew)); exact Kd.R_mono (Kd.R_far (p := ⟨gb312, 4, none⟩) (Kd.R_types HO315.out BK312.out (by decide)) (fun _ hk => hk.2) (.slice Ao23 y319.length co23)) (fun _ hk => trivial)⟩, ⟨by (with_reducible repeat (first | apply Kd.R_alloc | apply Kd.R_drewN | apply Kd.R_drew)); exact Kd.R_mono (Kd.R_far (p := ⟨gb312, 4, none⟩) (Kd.R_types HO318.out BK312.out (by decide)) (fun _ hk => hk.2) (.slice Ao23 y319.length co23)) (fun _ hk => trivial)⟩, ⟨by first | exact Kd.S_nil _ _ _ _ _ | exact Kd.N_nil _ _ _ _ _ | exact Kd.V_nil _ _ _ _ _ | exact Kd.Q_nil _ _ _ _ _ | exact Kd.R_nil _ _ _ _ _⟩, ⟨by (with_reducible repeat (first | apply Kd.R_alloc | apply Kd.R_drewN | apply Kd.R_drew)); exact Kd.R_mono (Kd.R_far (p := ⟨gb312, 4, none⟩) (Kd.R_types HO321.out BK312.out (by decide)) (fun _ hk => hk.2) (.slice Ao23 y319.length co23)) (fun _ hk => trivial)⟩, ⟨by (with_reducible repeat (first | refine blk_drewN ?_ _ | refine blk_drew ?_ | refine blk_alloc ?_ _)); refine blk_far ?_ NB310_312.out _; (with_reducible repeat (first | refine blk_drewN ?_ _ | refine blk_drew ?_ | refine blk_alloc ?_ _)); exact BK310.out⟩, ⟨by (with_reducible repeat (first | refine blk_drewN ?_ _ | refine blk_drew ?_ | refine blk_alloc ?_ _)); refine blk_far ?_ NB311_312.out _; (with_reducible repeat (first | refine blk_drewN ?_ _ | refine blk_drew ?_ | refine blk_alloc ?_ _)); exact BK311.out⟩, ⟨by (with_reducible repeat (first | refine blk_drewN ?_ _ | refine blk_drew ?_ | refine blk_alloc ?_ _)); refine blk_put (cs := #[.slice Ao15 y313.length co15, .slice Ao19 y316.length co19, .slice none 0 0, .slice none 0 0, .slice none 0 0, .int .i64 a0_5, .int .i64 a0_6]) ?_ 4 _ rfl; (with_reducible repeat (first | refine blk_drewN ?_ _ | refine blk_drew ?_ | refine blk_alloc ?_ _)); exact BK312.out⟩, ⟨by repeat (first | (with_reducible first | exact HB.out | apply below_alloc | apply pw_below_drewN | apply below_drew1 | refine below_set ?_ GE310.out | refine below_set ?_ GE311.out | refine below_set ?_ GE312.out) | exact HB.out)⟩⟩
    case round =>
     clear H'
     try clear c1
     try clear c2
     try clear p2
     try clear c3
     try clear c4
     try clear c7
     try clear c10
     try clear c11
     try clear c14
     try clear hcz12_0
     try clear hcz12_1
     try clear hcz12_2
     try clear hcz12_3
     try clear hcz12_4
     try clear hcz12_5
     try clear hcz12_6
     try clear hcz13_0
     try clear hcz13_1
     try clear hcz13_2
     try clear hcz13_3
     try clear hcz13_4
     try clear hcz13_5
     try clear hcz13_6
     try clear hcz16_0
     try clear hcz16_1
     try clear hcz16_2
     try clear hcz16_3
     try clear hcz16_4
     try clear hcz16_5
     try clear hcz16_6
     try clear hcz17_0
     try clear hcz17_1
     try clear hcz17_2
     try clear hcz17_3
     try clear hcz17_4
     try clear hcz17_5
     try clear hcz17_6
     try clear hcz20_0
     try clear hcz20_1
     try clear hcz20_2
     try clear hcz20_3
     try clear hcz20_4
     try clear hcz20_5
     try clear hcz20_6
     try clear hcz21_0
     try clear hcz21_1
     try clear hcz21_2
     try clear hcz21_3
     try clear hcz21_4
     try clear hcz21_5
     try clear hcz21_6
     try clear hcz24_0
     try clear hcz24_1
     try clear hcz24_2
     try clear hcz24_3
     try clear hcz24_4
     try clear hcz24_5
     try clear hcz24_6
     try clear hcz8_0
     try clear hcz8_1
     try clear hcz8_2
     try clear hcz8_3
     try clear hcz8_4
     try clear hcz8_5
     try clear hcz8_6
     try clear hfz12_0
     try clear hfz12_1
     try clear hfz12_2
     try clear hfz12_3
     try clear hfz12_4
     try clear hfz12_5
     try clear hfz12_6
     try clear hfz13_0
     try clear hfz13_1
     try clear hfz13_2
     try clear hfz13_3
     try clear hfz13_4
     try clear hfz13_5
     try clear hfz13_6
     try clear hfz16_0
     try clear hfz16_1
     try clear hfz16_2
     try clear hfz16_3
     try clear hfz16_4
     try clear hfz16_5
     try clear hfz16_6
     try clear hfz17_0
     try clear hfz17_1
     try clear hfz17_2
     try clear hfz17_3
     try clear hfz17_4
     try clear hfz17_5
     try clear hfz17_6
     try clear hfz20_0
     try clear hfz20_1
     try clear hfz20_2
     try clear hfz20_3
     try clear hfz20_4
     try clear hfz20_5
     try clear hfz20_6
     try clear hfz21_0
     try clear hfz21_1
     try clear hfz21_2
     try clear hfz21_3
     try clear hfz21_4
     try clear hfz21_5
     try clear hfz21_6
     try clear hfz24_0
     try clear hfz24_1
     try clear hfz24_2
     try clear hfz24_3
     try clear hfz24_4
     try clear hfz24_5
     try clear hfz24_6
     try clear hfz8_0
     try clear hfz8_1
     try clear hfz8_2
     try clear hfz8_3
     try clear hfz8_4
     try clear hfz8_5
     try clear hfz8_6
     obtain ⟨x4_1, x313002_1, u313002, rfl, HA, HK1, HO_313000, HO_313001, HO_313002, HO_313004, BK310, BK311, BK312, HB⟩ := hrel
     cases gk with
     | zero => exact absurd HA.out (by simp [berthref20_Copy.l0])
     | succ k1 =>
      have H := HA.out
      clear HA
      simp only [berthref20_Copy.l0] at H
      by_cases c25 : x4_1 < (l0_2.length : Int)
      ·
       rw [if_pos c25] at H
       have c25b0 : decide (x4_1 < (l0_2.length : Int)) = true := decide_eq_true c25
       clear c25
       obtain ⟨y322, hy322⟩ : ∃ y_ : List ByteArray, y_ = (([] : List ByteArray)) := ⟨_, rfl⟩
       replace H : (if 0 ≤ x4_1 then (if y322.length + (rd_L2 l0_2 x4_1).length < 8796093022208 then (if x313002_1.length < 5864062014805 then (berthref20_Copy.l0 k1 (wrap64 (x4_1 + 1)) l0_0 l0_1 l0_2 l0_3 l0_4 a0_5 a0_6 y313 y316 (x313002_1 ++ [(y322 ++ (rd_L2 l0_2 x4_1))]) y319 a0_5 a0_6) else (none)) else (none)) else (none)) = some (r1, r2, r3, r4, r5, r6, r7) := by first | (rw [hy322]; with_reducible exact H) | (have H2_ := (Option.bind_some _ _).symm.trans H; rw [hy322]; with_reducible exact H2_) | (have H2_ := (Option.bind_some _ _).symm.trans H; with_reducible exact H2_) | with_reducible exact H | (rw [hy322]; exact H) | exact H
       have Ny322 := Aside0.mk hy322
       clear hy322
       by_cases c26 : 0 ≤ x4_1
       ·
        rw [if_pos c26] at H
        have c26b0 : decide (0 ≤ x4_1) = true := decide_eq_true c26
        clear c26
        by_cases c27 : y322.length + (rd_L2 l0_2 x4_1).length < 8796093022208
        ·
         rw [if_pos c27] at H
         have LMc27 := Aside0.mk c27
         clear c27
         obtain ⟨y326, hy326⟩ : ∃ y_ : List ByteArray, y_ = (y322 ++ (rd_L2 l0_2 x4_1)) := ⟨_, rfl⟩
         replace H : (if x313002_1.length < 5864062014805 then (berthref20_Copy.l0 k1 (wrap64 (x4_1 + 1)) l0_0 l0_1 l0_2 l0_3 l0_4 a0_5 a0_6 y313 y316 (x313002_1 ++ [y326]) y319 a0_5 a0_6) else (none)) = some (r1, r2, r3, r4, r5, r6, r7) := by first | (rw [hy326]; with_reducible exact H) | (have H2_ := (Option.bind_some _ _).symm.trans H; rw [hy326]; with_reducible exact H2_) | (have H2_ := (Option.bind_some _ _).symm.trans H; with_reducible exact H2_) | with_reducible exact H | (rw [hy326]; exact H) | exact H
         have Ny326 := Aside0.mk hy326
         clear hy326
         by_cases c28 : x313002_1.length < 5864062014805
         ·
          rw [if_pos c28] at H
          have LMc28 := Aside0.mk c28
          clear c28
          obtain ⟨y329, hy329⟩ : ∃ y_ : List (List ByteArray), y_ = (x313002_1 ++ [y326]) := ⟨_, rfl⟩
          replace H : (berthref20_Copy.l0 k1 (wrap64 (x4_1 + 1)) l0_0 l0_1 l0_2 l0_3 l0_4 a0_5 a0_6 y313 y316 y329 y319 a0_5 a0_6) = some (r1, r2, r3, r4, r5, r6, r7) := by first | (rw [hy329]; with_reducible exact H) | (have H2_ := (Option.bind_some _ _).symm.trans H; rw [hy329]; with_reducible exact H2_) | (have H2_ := (Option.bind_some _ _).symm.trans H; with_reducible exact H2_) | with_reducible exact H | (rw [hy329]; exact H) | exact H
          have Ny329 := Aside0.mk hy329
          clear hy329
          have H' := Aside0.mk H
          clear H
          have hnb29 := NB310_311.out
          have hnc29 := NB311_310.out
          have hnb30 := NB310_312.out
          have hnc30 := NB312_310.out
          have hcz31_0 : wr.cell? ⟨gb310, 0, none⟩ = some (.slice A0_0 l0_0.length c0_0) := (blk_cell BK310.out 0).trans rfl
          have hcz31_1 : wr.cell? ⟨gb310, 1, none⟩ = some (.slice A0_1 l0_1.length c0_1) := (blk_cell BK310.out 1).trans rfl
          have hcz31_2 : wr.cell? ⟨gb310, 2, none⟩ = some (.slice A0_2 l0_2.length c0_2) := (blk_cell BK310.out 2).trans rfl
          have hcz31_3 : wr.cell? ⟨gb310, 3, none⟩ = some (.slice A0_3 l0_3.length c0_3) := (blk_cell BK310.out 3).trans rfl
          have hcz31_4 : wr.cell? ⟨gb310, 4, none⟩ = some (.slice A0_4 l0_4.length c0_4) := (blk_cell BK310.out 4).trans rfl
          have hcz31_5 : wr.cell? ⟨gb310, 5, none⟩ = some (.int .i64 a0_5) := (blk_cell BK310.out 5).trans rfl
          have hcz31_6 : wr.cell? ⟨gb310, 6, none⟩ = some (.int .i64 a0_6) := (blk_cell BK310.out 6).trans rfl
          have hfz31_0 := blk_frozen BK310.out 0
          have hfz31_1 := blk_frozen BK310.out 1
          have hfz31_2 := blk_frozen BK310.out 2
          have hfz31_3 := blk_frozen BK310.out 3
          have hfz31_4 := blk_frozen BK310.out 4
          have hfz31_5 := blk_frozen BK310.out 5
          have hfz31_6 := blk_frozen BK310.out 6
          try go_wp2
          have n0_ := Aside0.mk (Kd.R_drew HO_313000.out)
          have n1_ := Aside0.mk (Kd.R_drew HO_313001.out)
          have n2_ := Aside0.mk (Kd.S_drew HO_313002.out)
          have n3_ := Aside0.mk (Kd.R_drew HO_313004.out)
          have n4_ := Aside0.mk (blk_drew BK310.out)
          have n5_ := Aside0.mk (blk_drew BK311.out)
          have n6_ := Aside0.mk (blk_drew BK312.out)
          have n7_ := Aside0.mk (below_drew1 HB.out)
          clear HO_313000
          clear HO_313001
          clear HO_313002
          clear HO_313004
          clear BK310
          clear BK311
          clear BK312
          clear HB
          have HO_313000 := n0_
          have HO_313001 := n1_
          have HO_313002 := n2_
          have HO_313004 := n3_
          have BK310 := n4_
          have BK311 := n5_
          have BK312 := n6_
          have HB := n7_
          clear n0_ n1_ n2_ n3_ n4_ n5_ n6_ n7_
          have p325 : 0 ≤ (x4_1 : Int) := of_decide_eq_true (by first | (with_reducible assumption) | assumption)
          have q325 : x4_1 < (l0_2.length : Int) := of_decide_eq_true (by first | (with_reducible assumption) | assumption)
          obtain ⟨ad325, A325_0, c325_0, e325, hx325_0, hl325_0, hi325_0⟩ := at_L2 HR0_2.out x4_1 p325 q325
          have hw325_0 := hx325_0
          cases e325
          replace hx325_0 := (HB.out.cell (World.block_lt_of_cell? w _ hx325_0)).trans hx325_0
          have HR325_0 := Aside0.mk hi325_0
          have HC325_0 := Aside0.mk hl325_0
          clear hi325_0 hl325_0
          replace p325 := eq_true p325
          replace q325 := eq_true q325
          refine start_ (n := 13) (S := fun w' => w'.cell? ⟨gb312, 0, none⟩ = some (.slice Ao15 y313.length co15) ∧ w'.cell? ⟨gb312, 1, none⟩ = some (.slice Ao19 y316.length co19) ∧ w'.cell? ⟨gb312, 2, none⟩ = some (u313002) ∧ w'.cell? ⟨gb312, 3, none⟩ = some (.slice none 0 0) ∧ w'.cell? ⟨gb312, 4, none⟩ = some (.slice Ao23 y319.length co23) ∧ w'.cell? ⟨gb312, 5, none⟩ = some (.int .i64 a0_5) ∧ w'.cell? ⟨gb312, 6, none⟩ = some (.int .i64 a0_6) ∧ w'.cell? ⟨gb310, 0, none⟩ = some (.slice A0_0 l0_0.length c0_0) ∧ w'.cell? ⟨gb310, 1, none⟩ = some (.slice A0_1 l0_1.length c0_1) ∧ w'.cell? ⟨gb310, 2, none⟩ = some (.slice (some ad325) l0_2.length c0_2) ∧ w'.cell? ⟨gb310, 3, none⟩ = some (.slice A0_3 l0_3.length c0_3) ∧ w'.cell? ⟨gb310, 4, none⟩ = some (.slice A0_4 l0_4.length c0_4) ∧ w'.cell? ⟨gb310, 5, none⟩ = some (.int .i64 a0_5) ∧ w'.cell? ⟨gb310, 6, none⟩ = some (.int .i64 a0_6) ∧ w'.cell? (ad325.add (x4_1).toNat) = some (.slice A325_0 (rd_L2 l0_2 x4_1).length c325_0)) (ds := [12]) #[false, false, false, false, false, false, false, false, false, false, false, false, false] (by kernel_rfl) rfl rfl ⟨(blk_cell BK312.out 0).trans rfl, (blk_cell BK312.out 1).trans rfl, (blk_cell BK312.out 2).trans rfl, (blk_cell BK312.out 3).trans rfl, (blk_cell BK312.out 4).trans rfl, (blk_cell BK312.out 5).trans rfl, (blk_cell BK312.out 6).trans rfl, (blk_cell BK310.out 0).trans rfl, (blk_cell BK310.out 1).trans rfl, (blk_cell BK310.out 2).trans rfl, (blk_cell BK310.out 3).trans rfl, (blk_cell BK310.out 4).trans rfl, (blk_cell BK310.out 5).trans rfl, (blk_cell BK310.out 6).trans rfl, ((HB.out.cell (World.block_lt_of_cell? w _ hw325_0)).trans hw325_0)⟩ (fun hHeld => ?_); refine with_tabW berthref20_Copy.tab8 berthref20_Copy.bits8 (fun HT_ HW_ => ?_)
          generalize wr.drew = w32 at HO_313000 HO_313001 HO_313002 HO_313004 BK310 BK311 BK312 HB HR325_0 hx325_0 hHeld ⊢
          refine pure_ (i := 0) (N := some 36) (v := ?_) (a' := ?_) #[true, false, false, false, false, false, false, false, false, false, false, false, false] rfl rfl (any_of HT_.out (by kernel_rfl)) (fun _ _ _ h => h) (Or.inl ⟨by rfl, ?_⟩) ?_ ?_
          rotate_left
          ·
           intro w'
           go_simp
           with_reducible rfl
          rotate_left
          ·
           simp only [Act.put, List.setIfInBounds_toArray, List.set_cons_zero, List.set_cons_succ, i64_w, i32_w]
           rfl
          refine pure_ (i := 3) (N := some 39) (v := ?_) (a' := ?_) #[true, false, false, true, false, false, false, false, false, false, false, false, false] rfl rfl (any_of HT_.out (by kernel_rfl)) (fun _ _ _ h => h) (Or.inl ⟨by rfl, ?_⟩) ?_ ?_
          rotate_left
          ·
           intro w'
           go_simp
           with_reducible rfl
          rotate_left
          ·
           simp only [Act.put, List.setIfInBounds_toArray, List.set_cons_zero, List.set_cons_succ, i64_w, i32_w]
           rfl
          refine pure_ (i := 5) (N := some 41) (v := ?_) (a' := ?_) #[true, false, false, true, false, true, false, false, false, false, false, false, false] rfl rfl (any_of HT_.out (by kernel_rfl)) (fun _ _ _ h => h) (Or.inl ⟨by rfl, ?_⟩) ?_ ?_
          rotate_left
          ·
           intro w'
           go_simp
           with_reducible rfl
          rotate_left
          ·
           simp only [Act.put, List.setIfInBounds_toArray, List.set_cons_zero, List.set_cons_succ, i64_w, i32_w]
           rfl
          refine take_ (i := 1) (N := some 37) (v := ?_) (a' := ?_) #[true, true, false, true, false, true, false, false, false, false, false, false, false] rfl rfl (take_ofW HT_.out HW_.out (by kernel_rfl)) (fun _ _ _ h => h) (Or.inl ⟨by rfl, ?_⟩) hHeld ?_ ?_
          rotate_left
          ·
           rintro w' ⟨s0, s1, s2, s3, s4, s5, s6, s7, s8, s9, s10, s11, s12, s13, s14⟩
           go_simp
           with_reducible rfl
          rotate_left
          ·
           simp only [Act.put, List.setIfInBounds_toArray, List.set_cons_zero, List.set_cons_succ, i64_w, i32_w]
           rfl
          refine take_ (i := 4) (N := some 40) (v := ?_) (a' := ?_) #[true, true, false, true, true, true, false, false, false, false, false, false, false] rfl rfl (take_ofW HT_.out HW_.out (by kernel_rfl)) (fun _ _ _ h => h) (Or.inl ⟨by rfl, ?_⟩) hHeld ?_ ?_
          rotate_left
          ·
           rintro w' ⟨s0, s1, s2, s3, s4, s5, s6, s7, s8, s9, s10, s11, s12, s13, s14⟩
           go_simp
           with_reducible rfl
          rotate_left
          ·
           simp only [Act.put, List.setIfInBounds_toArray, List.set_cons_zero, List.set_cons_succ, i64_w, i32_w]
           rfl
          refine pure_ (i := 6) (N := some 42) (v := ?_) (a' := ?_) #[true, true, false, true, true, true, true, false, false, false, false, false, false] rfl rfl (any_of HT_.out (by kernel_rfl)) (fun _ _ _ h => h) (Or.inl ⟨by rfl, ?_⟩) ?_ ?_
          rotate_left
          ·
           intro w'
           go_simp
           with_reducible rfl
          rotate_left
          ·
           simp only [Act.put, List.setIfInBounds_toArray, List.set_cons_zero, List.set_cons_succ, i64_w, i32_w]
           rfl
          refine take_ (i := 7) (N := some 43) (v := ?_) (a' := ?_) #[true, true, false, true, true, true, true, true, false, false, false, false, false] rfl rfl (take_ofW HT_.out HW_.out (by kernel_rfl)) (fun _ _ _ h => h) (Or.inl ⟨by rfl, ?_⟩) hHeld ?_ ?_
          rotate_left
          ·
           rintro w' ⟨s0, s1, s2, s3, s4, s5, s6, s7, s8, s9, s10, s11, s12, s13, s14⟩
           go_simp
           with_reducible rfl
          rotate_left
          ·
           simp only [Act.put, List.setIfInBounds_toArray, List.set_cons_zero, List.set_cons_succ, i64_w, i32_w]
           rfl
          refine one_ (i := 2) (N := some 38) #[true, true, true, true, true, true, true, true, false, false, false, false, false] rfl rfl (one_of HT_.out (by kernel_rfl)) (by decide) (fun K hK => ?_)
          refine Kd.R_lit_step Kd.string _ 9 ?hg (N := 38) ?hd (xs := ([] : List ByteArray)) (inner := []) (ok := fun _ => True) (okp := fun _ => True) ?hr ?hp (fun _ hk => hk) trivial (Below.refl _ _) (Nat.le_refl _) (by simp) ?_; (case hd => rfl); (case hg => rfl); (case hr => first | (go_simp; done) | (go_simp; rfl)); (case hp => exact (Reps.none _ _))
          intro v323 w33 ho34 hb hg_ hnew_
          clear hg_ hnew_
          (first | rw [← Ny322.out] at ho34 | (simp only [Int.reduceToNat] at ho34; rw [← Ny322.out] at ho34))
          have n0_ := Aside0.mk (Kd.R_elder' (by (with_reducible repeat (first | apply Kd.R_alloc | apply Kd.R_drewN | apply Kd.R_drew)); exact HO_313000.out) (Kd.R_base ho34) hb)
          have n1_ := Aside0.mk (Kd.R_below (by (with_reducible repeat (first | apply Kd.R_alloc | apply Kd.R_drewN | apply Kd.R_drew)); exact HO_313001.out) hb)
          have n2_ := Aside0.mk (Kd.S_elder' (by (with_reducible repeat (first | apply Kd.S_alloc | apply Kd.S_drewN | apply Kd.S_drew)); exact HO_313002.out) (Kd.R_base ho34) hb)
          have n3_ := Aside0.mk (Kd.R_below (by (with_reducible repeat (first | apply Kd.R_alloc | apply Kd.R_drewN | apply Kd.R_drew)); exact HO_313004.out) hb)
          have n4_ := Aside0.mk (Kd.R_lower (Kd.R_new' ho34 (Kd.R_lt (by (with_reducible repeat (first | apply Kd.R_alloc | apply Kd.R_drewN | apply Kd.R_drew)); exact HO_313000.out))) (below_size (by repeat (first | (with_reducible first | exact HB.out | apply below_alloc | apply pw_below_drewN | apply below_drew1 | refine below_set ?_ GE310.out | refine below_set ?_ GE311.out | refine below_set ?_ GE312.out) | exact HB.out))))
          have n5_ := Aside0.mk (blk_below (g := gb310) (o := .cells #[.slice A0_0 l0_0.length c0_0, .slice A0_1 l0_1.length c0_1, .slice (some ad325) l0_2.length c0_2, .slice A0_3 l0_3.length c0_3, .slice A0_4 l0_4.length c0_4, .int .i64 a0_5, .int .i64 a0_6] 32 (0, 0)) (by (with_reducible repeat (first | refine blk_drewN ?_ _ | refine blk_drew ?_ | refine blk_alloc ?_ _)); exact BK310.out) hb)
          have n6_ := Aside0.mk (blk_below (g := gb311) (o := .cells #[.slice none 0 0, .slice none 0 0, .slice none 0 0, .slice none 0 0, .slice none 0 0, .int .i64 0, .int .i64 0] 32 (0, 0)) (by (with_reducible repeat (first | refine blk_drewN ?_ _ | refine blk_drew ?_ | refine blk_alloc ?_ _)); exact BK311.out) hb)
          have n7_ := Aside0.mk (blk_below (g := gb312) (o := .cells #[.slice Ao15 y313.length co15, .slice Ao19 y316.length co19, u313002, .slice none 0 0, .slice Ao23 y319.length co23, .int .i64 a0_5, .int .i64 a0_6] 32 (0, 0)) (by (with_reducible repeat (first | refine blk_drewN ?_ _ | refine blk_drew ?_ | refine blk_alloc ?_ _)); exact BK312.out) hb)
          have n8_ := Aside0.mk (below_step (by repeat (first | (with_reducible first | exact HB.out | apply below_alloc | apply pw_below_drewN | apply below_drew1 | refine below_set ?_ GE310.out | refine below_set ?_ GE311.out | refine below_set ?_ GE312.out) | exact HB.out)) hb)
          clear HO_313000
          clear HO_313001
          clear HO_313002
          clear HO_313004
          clear BK310
          clear BK311
          clear BK312
          clear HB
          have HO_313000 := n0_
          have HO_313001 := n1_
          have HO_313002 := n2_
          have HO_313004 := n3_
          have HO324 := n4_
          have BK310 := n5_
          have BK311 := n6_
          have BK312 := n7_
          have HB := n8_
          clear n0_ n1_ n2_ n3_ n4_ n5_ n6_ n7_ n8_
          clear hb ho34
          refine hK.out _ _ ⟨(blk_cell BK312.out 0).trans rfl, (blk_cell BK312.out 1).trans rfl, (blk_cell BK312.out 2).trans rfl, (blk_cell BK312.out 3).trans rfl, (blk_cell BK312.out 4).trans rfl, (blk_cell BK312.out 5).trans rfl, (blk_cell BK312.out 6).trans rfl, (blk_cell BK310.out 0).trans rfl, (blk_cell BK310.out 1).trans rfl, (blk_cell BK310.out 2).trans rfl, (blk_cell BK310.out 3).trans rfl, (blk_cell BK310.out 4).trans rfl, (blk_cell BK310.out 5).trans rfl, (blk_cell BK310.out 6).trans rfl, ((HB.out.cell (World.block_lt_of_cell? w _ hw325_0)).trans hw325_0)⟩ (fun hHeld => ?_)
          clear hK K
          refine norm_ (a' := ?_) ?_ ?_
          rotate_left
          ·
           show Act.put _ (some 38) _ = _
           simp only [Act.put, List.setIfInBounds_toArray, List.set_cons_zero, List.set_cons_succ, i64_w, i32_w]
           rfl
          refine one_ (i := 8) (N := some 44) #[true, true, true, true, true, true, true, true, true, false, false, false, false] rfl rfl (one_of HT_.out (by kernel_rfl)) (by decide) (fun K hK => ?_)
          refine Kd.R_append_rows_step Kd.string (w0 := w) w.heap.size (by rfl) (.tmp 38) (.tmp 43) 26 9 (.string ⟨#[]⟩) 16 rfl Try.underlying26 info9 rfl (by decide) (by omega) v323 y322 (rd_L2 l0_2 x4_1) _ _ _ (fun k_ => some k_ ≠ (.slice Ao15 y313.length co15 : Value).ownBlock) (fun _ => False) rfl rfl ?aO ?aR (fun _ _ h => h) (fun _ h => h.elim) ?aF ?aB ?aS ?aL ?_
          (case aR => repeat (first | exact (Kd.C_below HR325_0.out HB.out) | (with_reducible refine Kd.C_alloc ?_ _) | (with_reducible refine Kd.C_drewN ?_ _) | (with_reducible refine Kd.C_drew ?_)))
          (case aB => exact (by repeat (first | (with_reducible first | exact HB.out | apply below_alloc | apply pw_below_drewN | apply below_drew1 | refine below_set ?_ GE310.out | refine below_set ?_ GE311.out | refine below_set ?_ GE312.out) | exact HB.out)))
          (case aF => exact (fun k_ hk => Kd.fresh' (Kd.R_lt (by (with_reducible repeat (first | apply Kd.R_alloc | apply Kd.R_drewN | apply Kd.R_drew)); exact HO_313000.out)) k_ hk))
          (case aO => exact (by (with_reducible repeat (first | apply Kd.R_alloc | apply Kd.R_drewN | apply Kd.R_drew)); exact Kd.R_mono HO324.out (fun _ hk => hk.2)))
          (case aS => exact (below_size (by repeat (first | (with_reducible first | exact HB.out | apply below_alloc | apply pw_below_drewN | apply below_drew1 | refine below_set ?_ GE310.out | refine below_set ?_ GE311.out | refine below_set ?_ GE312.out) | exact HB.out))))
          (case aL => have := LMc27.out; omega)
          intro v327 w35 ho hb hg hat
          rw [← Ny326.out] at ho
          have n0_ := Aside0.mk (Kd.R_after (ok := (fun _ => True)) (by (with_reducible repeat (first | apply Kd.R_alloc | apply Kd.R_drewN | apply Kd.R_drew)); exact HO_313000.out) hg hat)
          have n1_ := Aside0.mk (Kd.R_over' (by (with_reducible repeat (first | apply Kd.R_alloc | apply Kd.R_drewN | apply Kd.R_drew)); exact HO_313001.out) (Kd.R_typed (by (with_reducible repeat (first | apply Kd.R_alloc | apply Kd.R_drewN | apply Kd.R_drew)); exact HO324.out)) (by decide) hg)
          have n2_ := Aside0.mk (Kd.S_after (ok := (fun k_ => some k_ ≠ (.slice Ao15 y313.length co15 : Value).ownBlock)) (by (with_reducible repeat (first | apply Kd.S_alloc | apply Kd.S_drewN | apply Kd.S_drew)); exact HO_313002.out) hg hat)
          have n3_ := Aside0.mk (Kd.R_over' (by (with_reducible repeat (first | apply Kd.R_alloc | apply Kd.R_drewN | apply Kd.R_drew)); exact HO_313004.out) (Kd.R_typed (by (with_reducible repeat (first | apply Kd.R_alloc | apply Kd.R_drewN | apply Kd.R_drew)); exact HO324.out)) (by decide) hg)
          have n4_ := Aside0.mk (blk_grown (g := gb310) (o := .cells #[.slice A0_0 l0_0.length c0_0, .slice A0_1 l0_1.length c0_1, .slice (some ad325) l0_2.length c0_2, .slice A0_3 l0_3.length c0_3, .slice A0_4 l0_4.length c0_4, .int .i64 a0_5, .int .i64 a0_6] 32 (0, 0)) (by (with_reducible repeat (first | refine blk_drewN ?_ _ | refine blk_drew ?_ | refine blk_alloc ?_ _)); exact BK310.out) hg (Kd.R_ne HO324.out BK310.out (by decide)))
          have n5_ := Aside0.mk (blk_grown (g := gb311) (o := .cells #[.slice none 0 0, .slice none 0 0, .slice none 0 0, .slice none 0 0, .slice none 0 0, .int .i64 0, .int .i64 0] 32 (0, 0)) (by (with_reducible repeat (first | refine blk_drewN ?_ _ | refine blk_drew ?_ | refine blk_alloc ?_ _)); exact BK311.out) hg (Kd.R_ne HO324.out BK311.out (by decide)))
          have n6_ := Aside0.mk (blk_grown (g := gb312) (o := .cells #[.slice Ao15 y313.length co15, .slice Ao19 y316.length co19, u313002, .slice none 0 0, .slice Ao23 y319.length co23, .int .i64 a0_5, .int .i64 a0_6] 32 (0, 0)) (by (with_reducible repeat (first | refine blk_drewN ?_ _ | refine blk_drew ?_ | refine blk_alloc ?_ _)); exact BK312.out) hg (Kd.R_ne HO324.out BK312.out (by decide)))
          have n7_ := Aside0.mk (hb)
          have n8_ := Aside0.mk (ho)
          clear HO_313000
          clear HO_313001
          clear HO_313002
          clear HO_313004
          clear BK310
          clear BK311
          clear BK312
          clear HB
          clear HO324
          have HO_313000 := n0_
          have HO_313001 := n1_
          have HO_313002 := n2_
          have HO_313004 := n3_
          have BK310 := n4_
          have BK311 := n5_
          have BK312 := n6_
          have HB := n7_
          have HO328 := n8_
          clear n0_ n1_ n2_ n3_ n4_ n5_ n6_ n7_ n8_
          clear ho hb hg hat
          obtain ⟨Ao37, co37, eo37⟩ := Kd.R_slice HO328.out
          (first | subst eo37 | (injection eo37 with f1_ f2_ f3_; have f4_ := f1_.symm; have f5_ := f3_.symm; clear f1_ f2_ f3_; subst f4_; subst f5_))
          refine hK.out _ _ ⟨(blk_cell BK312.out 0).trans rfl, (blk_cell BK312.out 1).trans rfl, (blk_cell BK312.out 2).trans rfl, (blk_cell BK312.out 3).trans rfl, (blk_cell BK312.out 4).trans rfl, (blk_cell BK312.out 5).trans rfl, (blk_cell BK312.out 6).trans rfl, (blk_cell BK310.out 0).trans rfl, (blk_cell BK310.out 1).trans rfl, (blk_cell BK310.out 2).trans rfl, (blk_cell BK310.out 3).trans rfl, (blk_cell BK310.out 4).trans rfl, (blk_cell BK310.out 5).trans rfl, (blk_cell BK310.out 6).trans rfl, ((HB.out.cell (World.block_lt_of_cell? w _ hw325_0)).trans hw325_0)⟩ (fun hHeld => ?_)
          clear hK K
          refine norm_ (a' := ?_) ?_ ?_
          rotate_left
          ·
           show Act.put _ (some 44) _ = _
           simp only [Act.put, List.setIfInBounds_toArray, List.set_cons_zero, List.set_cons_succ, i64_w, i32_w]
           rfl
          refine one_ (i := 9) (N := some 45) #[true, true, true, true, true, true, true, true, true, true, false, false, false] rfl rfl (one_of HT_.out (by kernel_rfl)) (by decide) (fun K hK => ?_)
          refine value_ (w1 := ?_) (v := ?_) (by rfl) rfl ?_ ?_
          rotate_left 2
          ·
           go_simp
           constructor
           ·
            rfl
           ·
            rfl
          refine hK.out _ _ ⟨(blk_cell (blk_alloc BK312.out _) 0).trans rfl, (blk_cell (blk_alloc BK312.out _) 1).trans rfl, (blk_cell (blk_alloc BK312.out _) 2).trans rfl, (blk_cell (blk_alloc BK312.out _) 3).trans rfl, (blk_cell (blk_alloc BK312.out _) 4).trans rfl, (blk_cell (blk_alloc BK312.out _) 5).trans rfl, (blk_cell (blk_alloc BK312.out _) 6).trans rfl, (blk_cell (blk_alloc BK310.out _) 0).trans rfl, (blk_cell (blk_alloc BK310.out _) 1).trans rfl, (blk_cell (blk_alloc BK310.out _) 2).trans rfl, (blk_cell (blk_alloc BK310.out _) 3).trans rfl, (blk_cell (blk_alloc BK310.out _) 4).trans rfl, (blk_cell (blk_alloc BK310.out _) 5).trans rfl, (blk_cell (blk_alloc BK310.out _) 6).trans rfl, (World.cell?_alloc_lt _ _ _ (World.block_lt_of_cell? _ _ (((HB.out.cell (World.block_lt_of_cell? w _ hw325_0)).trans hw325_0)))).trans (((HB.out.cell (World.block_lt_of_cell? w _ hw325_0)).trans hw325_0))⟩ (fun hHeld => ?_)
          clear hK K
          refine norm_ (a' := ?_) ?_ ?_
          rotate_left
          ·
           show Act.put _ (some 45) _ = _
           simp only [Act.put, List.setIfInBounds_toArray, List.set_cons_zero, List.set_cons_succ, i64_w, i32_w]
           rfl
          refine one_ (i := 10) (N := some 46) #[true, true, true, true, true, true, true, true, true, true, true, false, false] rfl rfl (one_of HT_.out (by kernel_rfl)) (by decide) (fun K hK => ?_)
          refine Kd.S_append_step (Kd.slice 9 Kd.string) (w0 := w) w.heap.size (by rfl) (.tmp 37) (.tmp 45) 28 26 (.slice none 0 0) 24 rfl Try.underlying28 info26 rfl (by decide) (by omega) u313002 x313002_1 y326 [.slice Ao37 y326.length co37] (fun k_ => some k_ ≠ (.slice Ao15 y313.length co15 : Value).ownBlock) (fun k_ => some k_ = (.slice Ao37 y326.length co37 : Value).ownBlock) rfl rfl ?aP (fun k_ hk_ => ((Kd.R_mono (ok' := fun k_ => ((fun k_ => some k_ ≠ (.slice Ao15 y313.length co15 : Value).ownBlock)) k_ ∧ some k_ ≠ (u313002 : Value).ownBlock) (Kd.R_apart' (HO328.out) (Kd.S_typed HO_313002.out) (by decide)) (fun k_ hk => ⟨hk.1, hk.2⟩))).1 k_ hk_.symm) ?aF ?aO ?aB ?aS ?aL ?_
          (case aP => exact Kd.M_row (Kd.R_mono (Kd.R_tight rfl (Kd.R_mono (ok' := fun k_ => ((fun k_ => some k_ ≠ (.slice Ao15 y313.length co15 : Value).ownBlock)) k_ ∧ some k_ ≠ (u313002 : Value).ownBlock) (Kd.R_apart' (HO328.out) (Kd.S_typed HO_313002.out) (by decide)) (fun k_ hk => ⟨hk.1, hk.2⟩))) (fun _ h_ => h_)))
          (case aB => exact (by repeat (first | (with_reducible first | exact HB.out | apply below_alloc | apply pw_below_drewN | apply below_drew1 | refine below_set ?_ GE310.out | refine below_set ?_ GE311.out | refine below_set ?_ GE312.out) | exact HB.out)))
          (case aF => exact (fun k_ hk => Kd.fresh' (Kd.R_lt (by (with_reducible repeat (first | apply Kd.R_alloc | apply Kd.R_drewN | apply Kd.R_drew)); exact HO_313000.out)) k_ hk))
          (case aO => exact (by (with_reducible repeat (first | apply Kd.S_alloc | apply Kd.S_drewN | apply Kd.S_drew)); exact Kd.S_mono HO_313002.out (fun k_ hk => ⟨hk.1, fun e_ => hk.2 e_⟩)))
          (case aS => exact (below_size (by repeat (first | (with_reducible first | exact HB.out | apply below_alloc | apply pw_below_drewN | apply below_drew1 | refine below_set ?_ GE310.out | refine below_set ?_ GE311.out | refine below_set ?_ GE312.out) | exact HB.out))))
          (case aL => have := LMc28.out; omega)
          intro v330 w36 ho hb hg hat
          rw [← Ny329.out] at ho
          have n0_ := Aside0.mk (Kd.R_over' (by (with_reducible repeat (first | apply Kd.R_alloc | apply Kd.R_drewN | apply Kd.R_drew)); exact HO_313000.out) (Kd.S_typed (by (with_reducible repeat (first | apply Kd.S_alloc | apply Kd.S_drewN | apply Kd.S_drew)); exact HO_313002.out)) (by decide) hg)
          have n1_ := Aside0.mk (Kd.R_over' (by (with_reducible repeat (first | apply Kd.R_alloc | apply Kd.R_drewN | apply Kd.R_drew)); exact HO_313001.out) (Kd.S_typed (by (with_reducible repeat (first | apply Kd.S_alloc | apply Kd.S_drewN | apply Kd.S_drew)); exact HO_313002.out)) (by decide) hg)
          have n2_ := Aside0.mk (Kd.R_over' (by (with_reducible repeat (first | apply Kd.R_alloc | apply Kd.R_drewN | apply Kd.R_drew)); exact HO_313004.out) (Kd.S_typed (by (with_reducible repeat (first | apply Kd.S_alloc | apply Kd.S_drewN | apply Kd.S_drew)); exact HO_313002.out)) (by decide) hg)
          have n3_ := Aside0.mk (blk_grown (g := gb310) (o := .cells #[.slice A0_0 l0_0.length c0_0, .slice A0_1 l0_1.length c0_1, .slice (some ad325) l0_2.length c0_2, .slice A0_3 l0_3.length c0_3, .slice A0_4 l0_4.length c0_4, .int .i64 a0_5, .int .i64 a0_6] 32 (0, 0)) (by (with_reducible repeat (first | refine blk_drewN ?_ _ | refine blk_drew ?_ | refine blk_alloc ?_ _)); exact BK310.out) hg (Kd.S_ne HO_313002.out BK310.out (by decide)))
          have n4_ := Aside0.mk (blk_grown (g := gb311) (o := .cells #[.slice none 0 0, .slice none 0 0, .slice none 0 0, .slice none 0 0, .slice none 0 0, .int .i64 0, .int .i64 0] 32 (0, 0)) (by (with_reducible repeat (first | refine blk_drewN ?_ _ | refine blk_drew ?_ | refine blk_alloc ?_ _)); exact BK311.out) hg (Kd.S_ne HO_313002.out BK311.out (by decide)))
          have n5_ := Aside0.mk (blk_grown (g := gb312) (o := .cells #[.slice Ao15 y313.length co15, .slice Ao19 y316.length co19, u313002, .slice none 0 0, .slice Ao23 y319.length co23, .int .i64 a0_5, .int .i64 a0_6] 32 (0, 0)) (by (with_reducible repeat (first | refine blk_drewN ?_ _ | refine blk_drew ?_ | refine blk_alloc ?_ _)); exact BK312.out) hg (Kd.S_ne HO_313002.out BK312.out (by decide)))
          have n6_ := Aside0.mk (hb)
          have n7_ := Aside0.mk (ho)
          clear HO_313000
          clear HO_313001
          clear HO_313004
          clear BK310
          clear BK311
          clear BK312
          clear HB
          clear HO_313002
          clear HO328
          have HO_313000 := n0_
          have HO_313001 := n1_
          have HO_313004 := n2_
          have BK310 := n3_
          have BK311 := n4_
          have BK312 := n5_
          have HB := n6_
          have HO331 := n7_
          clear n0_ n1_ n2_ n3_ n4_ n5_ n6_ n7_
          clear ho hb hg hat
          obtain ⟨Ao38, co38, eo38⟩ := Kd.S_slice HO331.out
          (first | subst eo38 | (injection eo38 with f1_ f2_ f3_; have f4_ := f1_.symm; have f5_ := f3_.symm; clear f1_ f2_ f3_; subst f4_; subst f5_))
          refine hK.out _ _ ⟨(blk_cell BK312.out 0).trans rfl, (blk_cell BK312.out 1).trans rfl, (blk_cell BK312.out 2).trans rfl, (blk_cell BK312.out 3).trans rfl, (blk_cell BK312.out 4).trans rfl, (blk_cell BK312.out 5).trans rfl, (blk_cell BK312.out 6).trans rfl, (blk_cell BK310.out 0).trans rfl, (blk_cell BK310.out 1).trans rfl, (blk_cell BK310.out 2).trans rfl, (blk_cell BK310.out 3).trans rfl, (blk_cell BK310.out 4).trans rfl, (blk_cell BK310.out 5).trans rfl, (blk_cell BK310.out 6).trans rfl, ((HB.out.cell (World.block_lt_of_cell? w _ hw325_0)).trans hw325_0)⟩ (fun hHeld => ?_)
          clear hK K
          refine norm_ (a' := ?_) ?_ ?_
          rotate_left
          ·
           show Act.put _ (some 46) _ = _
           simp only [Act.put, List.setIfInBounds_toArray, List.set_cons_zero, List.set_cons_succ, i64_w, i32_w]
           rfl
          refine pure_ (i := 11) (N := some 47) (v := ?_) (a' := ?_) #[true, true, true, true, true, true, true, true, true, true, true, true, false] rfl rfl (any_of HT_.out (by kernel_rfl)) (fun _ _ _ h => h) (Or.inl ⟨by rfl, ?_⟩) ?_ ?_
          rotate_left
          ·
           intro w'
           go_simp
           with_reducible rfl
          rotate_left
          ·
           simp only [Act.put, List.setIfInBounds_toArray, List.set_cons_zero, List.set_cons_succ, i64_w, i32_w]
           rfl
          refine last_ (i := 12) (N := none) #[true, true, true, true, true, true, true, true, true, true, true, true, true] rfl rfl (one_of HT_.out (by kernel_rfl)) (by decide) (fun K hK => ?_)
          have hs39 : w36.cell? ⟨gb312, 2, none⟩ = some (u313002) := (blk_cell BK312.out 2).trans rfl
          have hfs39 := blk_frozen BK312.out 2
          have hns39_0 := NB310_312.out
          have hns39_1 := NB311_312.out
          have hms39_0 := NB312_310.out
          have hms39_1 := NB312_311.out
          refine skip_ (w1 := ?_) (by rfl) rfl ?_ ?_
          rotate_left
          ·
           go_simp
           rfl
          refine hK.out _ _ ?_
          clear hK K
          refine done_ (done_of HT_.out (by kernel_rfl)) ?_
          try go_wp2
          go_roundg k1
          case measure => have := HK1.out; omega
          case rel => exact ⟨(wrap64 (x4_1 + 1)), (y329), (.slice Ao38 y329.length co38), (by first | rfl | (simp; done) | (simp [*]; done) | (simp only [i64_w]; done) | (simp [i64_w, Int.tdiv_eq_ediv_of_nonneg]; done)), H', ⟨by have := HK1.out; omega⟩, ⟨by (with_reducible repeat (first | apply Kd.R_alloc | apply Kd.R_drewN | apply Kd.R_drew)); exact Kd.R_mono (Kd.R_far (p := ⟨gb312, 2, none⟩) (Kd.R_types HO_313000.out BK312.out (by decide)) (fun _ hk => hk.2) (.slice Ao38 y329.length co38)) (fun _ hk => trivial)⟩, ⟨by (with_reducible repeat (first | apply Kd.R_alloc | apply Kd.R_drewN | apply Kd.R_drew)); exact Kd.R_mono (Kd.R_far (p := ⟨gb312, 2, none⟩) (Kd.R_types HO_313001.out BK312.out (by decide)) (fun _ hk => hk.2) (.slice Ao38 y329.length co38)) (fun _ hk => trivial)⟩, ⟨by (with_reducible repeat (first | apply Kd.S_alloc | apply Kd.S_drewN | apply Kd.S_drew)); exact Kd.S_mono (Kd.S_far (p := ⟨gb312, 2, none⟩) (Kd.S_types HO331.out BK312.out (by decide)) (fun _ hk => hk.2) (.slice Ao38 y329.length co38)) (fun _ hk => hk.1)⟩, ⟨by (with_reducible repeat (first | apply Kd.R_alloc | apply Kd.R_drewN | apply Kd.R_drew)); exact Kd.R_mono (Kd.R_far (p := ⟨gb312, 2, none⟩) (Kd.R_types HO_313004.out BK312.out (by decide)) (fun _ hk => hk.2) (.slice Ao38 y329.length co38)) (fun _ hk => trivial)⟩, ⟨by (with_reducible repeat (first | refine blk_drewN ?_ _ | refine blk_drew ?_ | refine blk_alloc ?_ _)); refine blk_far ?_ NB310_312.out _; (with_reducible repeat (first | refine blk_drewN ?_ _ | refine blk_drew ?_ | refine blk_alloc ?_ _)); exact BK310.out⟩, ⟨by (with_reducible repeat (first | refine blk_drewN ?_ _ | refine blk_drew ?_ | refine blk_alloc ?_ _)); refine blk_far ?_ NB311_312.out _; (with_reducible repeat (first | refine blk_drewN ?_ _ | refine blk_drew ?_ | refine blk_alloc ?_ _)); exact BK311.out⟩, ⟨by (with_reducible repeat (first | refine blk_drewN ?_ _ | refine blk_drew ?_ | refine blk_alloc ?_ _)); refine blk_put (cs := #[.slice Ao15 y313.length co15, .slice Ao19 y316.length co19, u313002, .slice none 0 0, .slice Ao23 y319.length co23, .int .i64 a0_5, .int .i64 a0_6]) ?_ 2 _ rfl; (with_reducible repeat (first | refine blk_drewN ?_ _ | refine blk_drew ?_ | refine blk_alloc ?_ _)); exact BK312.out⟩, ⟨by repeat (first | (with_reducible first | exact HB.out | apply below_alloc | apply pw_below_drewN | apply below_drew1 | refine below_set ?_ GE310.out | refine below_set ?_ GE311.out | refine below_set ?_ GE312.out) | exact HB.out)⟩⟩
         ·
          rw [if_neg c28] at H
          exact absurd H (by simp)
        ·
         rw [if_neg c27] at H
         exact absurd H (by simp)
       ·
        rw [if_neg c26] at H
        exact absurd H (by simp)
      ·
       rw [if_neg c25] at H
       have c25b0 : decide (x4_1 < (l0_2.length : Int)) = false := decide_eq_false c25
       clear c25
       have H' := Aside0.mk H
       clear H
       have hnb40 := NB310_311.out
       have hnc40 := NB311_310.out
       have hnb41 := NB310_312.out
       have hnc41 := NB312_310.out
       have hcz42_0 : wr.cell? ⟨gb310, 0, none⟩ = some (.slice A0_0 l0_0.length c0_0) := (blk_cell BK310.out 0).trans rfl
       have hcz42_1 : wr.cell? ⟨gb310, 1, none⟩ = some (.slice A0_1 l0_1.length c0_1) := (blk_cell BK310.out 1).trans rfl
       have hcz42_2 : wr.cell? ⟨gb310, 2, none⟩ = some (.slice A0_2 l0_2.length c0_2) := (blk_cell BK310.out 2).trans rfl
       have hcz42_3 : wr.cell? ⟨gb310, 3, none⟩ = some (.slice A0_3 l0_3.length c0_3) := (blk_cell BK310.out 3).trans rfl
       have hcz42_4 : wr.cell? ⟨gb310, 4, none⟩ = some (.slice A0_4 l0_4.length c0_4) := (blk_cell BK310.out 4).trans rfl
       have hcz42_5 : wr.cell? ⟨gb310, 5, none⟩ = some (.int .i64 a0_5) := (blk_cell BK310.out 5).trans rfl
       have hcz42_6 : wr.cell? ⟨gb310, 6, none⟩ = some (.int .i64 a0_6) := (blk_cell BK310.out 6).trans rfl
       have hfz42_0 := blk_frozen BK310.out 0
       have hfz42_1 := blk_frozen BK310.out 1
       have hfz42_2 := blk_frozen BK310.out 2
       have hfz42_3 := blk_frozen BK310.out 3
       have hfz42_4 := blk_frozen BK310.out 4
       have hfz42_5 := blk_frozen BK310.out 5
       have hfz42_6 := blk_frozen BK310.out 6
       go_wp2
       go_loopg [5] k1 (fun kq v5 w' => ∃ (x5_2 : Int) (x313003_2 : List (List Int)) (u313003 : Value), v5 = .int .i64 x5_2 ∧ Aside0 (berthref20_Copy.l1 kq x5_2 l0_0 l0_1 l0_2 l0_3 l0_4 a0_5 a0_6 y313 y316 x313002_1 x313003_2 y319 a0_5 a0_6 = some (r1, r2, r3, r4, r5, r6, r7)) ∧ Aside0 (kq ≤ k1) ∧ Aside0 (Kd.R Kd.string 9 w' w.heap.size (fun _ => True) (.slice Ao15 y313.length co15) y313) ∧ Aside0 (Kd.R (Kd.int .i64) 3 w' w.heap.size (fun _ => True) (.slice Ao19 y316.length co19) y316) ∧ Aside0 (Kd.S (Kd.slice 9 Kd.string) 26 w' w.heap.size (fun k_ => some k_ ≠ ((.slice Ao15 y313.length co15) : Value).ownBlock) u313002 x313002_1) ∧ Aside0 (Kd.S (Kd.slice 3 (Kd.int .i64)) 27 w' w.heap.size (fun k_ => some k_ ≠ ((.slice Ao19 y316.length co19) : Value).ownBlock) u313003 x313003_2) ∧ Aside0 (Kd.R k74 74 w' w.heap.size (fun _ => True) (.slice Ao23 y319.length co23) y319) ∧ Aside0 (w'.heap[gb310]? = some (.cells #[(.slice A0_0 l0_0.length c0_0), (.slice A0_1 l0_1.length c0_1), (.slice A0_2 l0_2.length c0_2), (.slice A0_3 l0_3.length c0_3), (.slice A0_4 l0_4.length c0_4), .int .i64 a0_5, .int .i64 a0_6] 32 (0, 0))) ∧ Aside0 (w'.heap[gb311]? = some (.cells #[(.slice none 0 0), (.slice none 0 0), (.slice none 0 0), (.slice none 0 0), (.slice none 0 0), .int .i64 0, .int .i64 0] 32 (0, 0))) ∧ Aside0 (w'.heap[gb312]? = some (.cells #[(.slice Ao15 y313.length co15), (.slice Ao19 y316.length co19), u313002, u313003, (.slice Ao23 y319.length co23), .int .i64 a0_5, .int .i64 a0_6] 32 (0, 0))) ∧ Aside0 (Below w.heap.size w w'))
       case atStart => exact ⟨(0), (([] : List (List Int))), (.slice none 0 0), (by first | rfl | (simp; done) | (simp [*]; done) | (simp only [i64_w]; done) | (simp [i64_w, Int.tdiv_eq_ediv_of_nonneg]; done)), H', ⟨Nat.le_refl _⟩, ⟨by (with_reducible repeat (first | apply Kd.R_alloc | apply Kd.R_drewN | apply Kd.R_drew)); exact HO_313000.out⟩, ⟨by (with_reducible repeat (first | apply Kd.R_alloc | apply Kd.R_drewN | apply Kd.R_drew)); exact HO_313001.out⟩, ⟨by (with_reducible repeat (first | apply Kd.S_alloc | apply Kd.S_drewN | apply Kd.S_drew)); exact HO_313002.out⟩, ⟨by first | exact Kd.S_nil _ _ _ _ _ | exact Kd.N_nil _ _ _ _ _ | exact Kd.V_nil _ _ _ _ _ | exact Kd.Q_nil _ _ _ _ _ | exact Kd.R_nil _ _ _ _ _⟩, ⟨by (with_reducible repeat (first | apply Kd.R_alloc | apply Kd.R_drewN | apply Kd.R_drew)); exact HO_313004.out⟩, ⟨by (with_reducible repeat (first | refine blk_drewN ?_ _ | refine blk_drew ?_ | refine blk_alloc ?_ _)); exact BK310.out⟩, ⟨by (with_reducible repeat (first | refine blk_drewN ?_ _ | refine blk_drew ?_ | refine blk_alloc ?_ _)); exact BK311.out⟩, ⟨by (with_reducible repeat (first | refine blk_drewN ?_ _ | refine blk_drew ?_ | refine blk_alloc ?_ _)); exact BK312.out⟩, ⟨by repeat (first | (with_reducible first | exact HB.out | apply below_alloc | apply pw_below_drewN | apply below_drew1 | refine below_set ?_ GE310.out | refine below_set ?_ GE311.out | refine below_set ?_ GE312.out) | exact HB.out)⟩⟩
       case round =>
        clear H'
        try clear c1
        try clear c2
        try clear p2
        try clear c3
        try clear p3
        try clear q3
        try clear hx3
        try clear c4
        try clear p6
        try clear c7
        try clear c10
        try clear c11
        try clear c14
        try clear c25
        try clear c25b0
        try clear c26
        try clear c26b0
        try clear c27
        try clear c28
        try clear c29
        try clear c30
        try clear c32
        try clear p32
        try clear q32
        try clear hx32
        try clear c40
        try clear c41
        try clear hcz12_0
        try clear hcz12_1
        try clear hcz12_2
        try clear hcz12_3
        try clear hcz12_4
        try clear hcz12_5
        try clear hcz12_6
        try clear hcz13_0
        try clear hcz13_1
        try clear hcz13_2
        try clear hcz13_3
        try clear hcz13_4
        try clear hcz13_5
        try clear hcz13_6
        try clear hcz16_0
        try clear hcz16_1
        try clear hcz16_2
        try clear hcz16_3
        try clear hcz16_4
        try clear hcz16_5
        try clear hcz16_6
        try clear hcz17_0
        try clear hcz17_1
        try clear hcz17_2
        try clear hcz17_3
        try clear hcz17_4
        try clear hcz17_5
        try clear hcz17_6
        try clear hcz20_0
        try clear hcz20_1
        try clear hcz20_2
        try clear hcz20_3
        try clear hcz20_4
        try clear hcz20_5
        try clear hcz20_6
        try clear hcz21_0
        try clear hcz21_1
        try clear hcz21_2
        try clear hcz21_3
        try clear hcz21_4
        try clear hcz21_5
        try clear hcz21_6
        try clear hcz24_0
        try clear hcz24_1
        try clear hcz24_2
        try clear hcz24_3
        try clear hcz24_4
        try clear hcz24_5
        try clear hcz24_6
        try clear hcz31_0
        try clear hcz31_1
        try clear hcz31_2
        try clear hcz31_3
        try clear hcz31_4
        try clear hcz31_5
        try clear hcz31_6
        try clear hcz42_0
        try clear hcz42_1
        try clear hcz42_2
        try clear hcz42_3
        try clear hcz42_4
        try clear hcz42_5
        try clear hcz42_6
        try clear hcz8_0
        try clear hcz8_1
        try clear hcz8_2
        try clear hcz8_3
        try clear hcz8_4
        try clear hcz8_5
        try clear hcz8_6
        try clear hfz12_0
        try clear hfz12_1
        try clear hfz12_2
        try clear hfz12_3
        try clear hfz12_4
        try clear hfz12_5
        try clear hfz12_6
        try clear hfz13_0
        try clear hfz13_1
        try clear hfz13_2
        try clear hfz13_3
        try clear hfz13_4
        try clear hfz13_5
        try clear hfz13_6
        try clear hfz16_0
        try clear hfz16_1
        try clear hfz16_2
        try clear hfz16_3
        try clear hfz16_4
        try clear hfz16_5
        try clear hfz16_6
        try clear hfz17_0
        try clear hfz17_1
        try clear hfz17_2
        try clear hfz17_3
        try clear hfz17_4
        try clear hfz17_5
        try clear hfz17_6
        try clear hfz20_0
        try clear hfz20_1
        try clear hfz20_2
        try clear hfz20_3
        try clear hfz20_4
        try clear hfz20_5
        try clear hfz20_6
        try clear hfz21_0
        try clear hfz21_1
        try clear hfz21_2
        try clear hfz21_3
        try clear hfz21_4
        try clear hfz21_5
        try clear hfz21_6
        try clear hfz24_0
        try clear hfz24_1
        try clear hfz24_2
        try clear hfz24_3
        try clear hfz24_4
        try clear hfz24_5
        try clear hfz24_6
        try clear hfz31_0
        try clear hfz31_1
        try clear hfz31_2
        try clear hfz31_3
        try clear hfz31_4
        try clear hfz31_5
        try clear hfz31_6
        try clear hfz42_0
        try clear hfz42_1
        try clear hfz42_2
        try clear hfz42_3
        try clear hfz42_4
        try clear hfz42_5
        try clear hfz42_6
        try clear hfz8_0
        try clear hfz8_1
        try clear hfz8_2
        try clear hfz8_3
        try clear hfz8_4
        try clear hfz8_5
        try clear hfz8_6
        try clear hx325_0
        try clear p2
        try clear p325
        try clear q325
        obtain ⟨x5_2, x313003_2, u313003, rfl, HA, HK2, HO_313000, HO_313001, HO_313002, HO_313003, HO_313004, BK310, BK311, BK312, HB⟩ := hrel
        cases gk with
        | zero => exact absurd HA.out (by simp [berthref20_Copy.l1])
        | succ k2 =>
         have H := HA.out
         clear HA
         simp only [berthref20_Copy.l1] at H
         by_cases c43 : x5_2 < (l0_3.length : Int)
         ·
          rw [if_pos c43] at H
          have c43b0 : decide (x5_2 < (l0_3.length : Int)) = true := decide_eq_true c43
          clear c43
          obtain ⟨y332, hy332⟩ : ∃ y_ : List Int, y_ = (([] : List Int)) := ⟨_, rfl⟩
          replace H : (if 0 ≤ x5_2 then (if y332.length + (rd_L3 l0_3 x5_2).length < 17592186044416 then (if x313003_2.length < 5864062014805 then (berthref20_Copy.l1 k2 (wrap64 (x5_2 + 1)) l0_0 l0_1 l0_2 l0_3 l0_4 a0_5 a0_6 y313 y316 x313002_1 (x313003_2 ++ [(y332 ++ (rd_L3 l0_3 x5_2))]) y319 a0_5 a0_6) else (none)) else (none)) else (none)) = some (r1, r2, r3, r4, r5, r6, r7) := by first | (rw [hy332]; with_reducible exact H) | (have H2_ := (Option.bind_some _ _).symm.trans H; rw [hy332]; with_reducible exact H2_) | (have H2_ := (Option.bind_some _ _).symm.trans H; with_reducible exact H2_) | with_reducible exact H | (rw [hy332]; exact H) | exact H
          have Ny332 := Aside0.mk hy332
          clear hy332
          by_cases c44 : 0 ≤ x5_2
          ·
           rw [if_pos c44] at H
           have c44b0 : decide (0 ≤ x5_2) = true := decide_eq_true c44
           clear c44
           by_cases c45 : y332.length + (rd_L3 l0_3 x5_2).length < 17592186044416
           ·
            rw [if_pos c45] at H
            have LMc45 := Aside0.mk c45
            clear c45
            obtain ⟨y336, hy336⟩ : ∃ y_ : List Int, y_ = (y332 ++ (rd_L3 l0_3 x5_2)) := ⟨_, rfl⟩
            replace H : (if x313003_2.length < 5864062014805 then (berthref20_Copy.l1 k2 (wrap64 (x5_2 + 1)) l0_0 l0_1 l0_2 l0_3 l0_4 a0_5 a0_6 y313 y316 x313002_1 (x313003_2 ++ [y336]) y319 a0_5 a0_6) else (none)) = some (r1, r2, r3, r4, r5, r6, r7) := by first | (rw [hy336]; with_reducible exact H) | (have H2_ := (Option.bind_some _ _).symm.trans H; rw [hy336]; with_reducible exact H2_) | (have H2_ := (Option.bind_some _ _).symm.trans H; with_reducible exact H2_) | with_reducible exact H | (rw [hy336]; exact H) | exact H
            have Ny336 := Aside0.mk hy336
            clear hy336
            by_cases c46 : x313003_2.length < 5864062014805
            ·
             rw [if_pos c46] at H
             have LMc46 := Aside0.mk c46
             clear c46
             obtain ⟨y339, hy339⟩ : ∃ y_ : List (List Int), y_ = (x313003_2 ++ [y336]) := ⟨_, rfl⟩
             replace H : (berthref20_Copy.l1 k2 (wrap64 (x5_2 + 1)) l0_0 l0_1 l0_2 l0_3 l0_4 a0_5 a0_6 y313 y316 x313002_1 y339 y319 a0_5 a0_6) = some (r1, r2, r3, r4, r5, r6, r7) := by first | (rw [hy339]; with_reducible exact H) | (have H2_ := (Option.bind_some _ _).symm.trans H; rw [hy339]; with_reducible exact H2_) | (have H2_ := (Option.bind_some _ _).symm.trans H; with_reducible exact H2_) | with_reducible exact H | (rw [hy339]; exact H) | exact H
             have Ny339 := Aside0.mk hy339
             clear hy339
             have H' := Aside0.mk H
             clear H
             have hnb47 := NB310_311.out
             have hnc47 := NB311_310.out
             have hnb48 := NB310_312.out
             have hnc48 := NB312_310.out
             have hcz49_0 : wr.cell? ⟨gb310, 0, none⟩ = some (.slice A0_0 l0_0.length c0_0) := (blk_cell BK310.out 0).trans rfl
             have hcz49_1 : wr.cell? ⟨gb310, 1, none⟩ = some (.slice A0_1 l0_1.length c0_1) := (blk_cell BK310.out 1).trans rfl
             have hcz49_2 : wr.cell? ⟨gb310, 2, none⟩ = some (.slice A0_2 l0_2.length c0_2) := (blk_cell BK310.out 2).trans rfl
             have hcz49_3 : wr.cell? ⟨gb310, 3, none⟩ = some (.slice A0_3 l0_3.length c0_3) := (blk_cell BK310.out 3).trans rfl
             have hcz49_4 : wr.cell? ⟨gb310, 4, none⟩ = some (.slice A0_4 l0_4.length c0_4) := (blk_cell BK310.out 4).trans rfl
             have hcz49_5 : wr.cell? ⟨gb310, 5, none⟩ = some (.int .i64 a0_5) := (blk_cell BK310.out 5).trans rfl
             have hcz49_6 : wr.cell? ⟨gb310, 6, none⟩ = some (.int .i64 a0_6) := (blk_cell BK310.out 6).trans rfl
             have hfz49_0 := blk_frozen BK310.out 0
             have hfz49_1 := blk_frozen BK310.out 1
             have hfz49_2 := blk_frozen BK310.out 2
             have hfz49_3 := blk_frozen BK310.out 3
             have hfz49_4 := blk_frozen BK310.out 4
             have hfz49_5 := blk_frozen BK310.out 5
             have hfz49_6 := blk_frozen BK310.out 6
             try go_wp2
             have n0_ := Aside0.mk (Kd.R_drew HO_313000.out)
             have n1_ := Aside0.mk (Kd.R_drew HO_313001.out)
             have n2_ := Aside0.mk (Kd.S_drew HO_313002.out)
             have n3_ := Aside0.mk (Kd.S_drew HO_313003.out)
             have n4_ := Aside0.mk (Kd.R_drew HO_313004.out)
             have n5_ := Aside0.mk (blk_drew BK310.out)
             have n6_ := Aside0.mk (blk_drew BK311.out)
             have n7_ := Aside0.mk (blk_drew BK312.out)
             have n8_ := Aside0.mk (below_drew1 HB.out)
             clear HO_313000
             clear HO_313001
             clear HO_313002
             clear HO_313003
             clear HO_313004
             clear BK310
             clear BK311
             clear BK312
             clear HB
             have HO_313000 := n0_
             have HO_313001 := n1_
             have HO_313002 := n2_
             have HO_313003 := n3_
             have HO_313004 := n4_
             have BK310 := n5_
             have BK311 := n6_
             have BK312 := n7_
             have HB := n8_
             clear n0_ n1_ n2_ n3_ n4_ n5_ n6_ n7_ n8_
             have p335 : 0 ≤ (x5_2 : Int) := of_decide_eq_true (by first | (with_reducible assumption) | assumption)
             have q335 : x5_2 < (l0_3.length : Int) := of_decide_eq_true (by first | (with_reducible assumption) | assumption)
             obtain ⟨ad335, A335_0, c335_0, e335, hx335_0, hl335_0, hi335_0⟩ := at_L3 HR0_3.out x5_2 p335 q335
             have hw335_0 := hx335_0
             cases e335
             replace hx335_0 := (HB.out.cell (World.block_lt_of_cell? w _ hx335_0)).trans hx335_0
             have HR335_0 := Aside0.mk hi335_0
             have HC335_0 := Aside0.mk hl335_0
             clear hi335_0 hl335_0
             replace p335 := eq_true p335
             replace q335 := eq_true q335
             refine start_ (n := 13) (S := fun w' => w'.cell? ⟨gb312, 0, none⟩ = some (.slice Ao15 y313.length co15) ∧ w'.cell? ⟨gb312, 1, none⟩ = some (.slice Ao19 y316.length co19) ∧ w'.cell? ⟨gb312, 2, none⟩ = some (u313002) ∧ w'.cell? ⟨gb312, 3, none⟩ = some (u313003) ∧ w'.cell? ⟨gb312, 4, none⟩ = some (.slice Ao23 y319.length co23) ∧ w'.cell? ⟨gb312, 5, none⟩ = some (.int .i64 a0_5) ∧ w'.cell? ⟨gb312, 6, none⟩ = some (.int .i64 a0_6) ∧ w'.cell? ⟨gb310, 0, none⟩ = some (.slice A0_0 l0_0.length c0_0) ∧ w'.cell? ⟨gb310, 1, none⟩ = some (.slice A0_1 l0_1.length c0_1) ∧ w'.cell? ⟨gb310, 2, none⟩ = some (.slice A0_2 l0_2.length c0_2) ∧ w'.cell? ⟨gb310, 3, none⟩ = some (.slice (some ad335) l0_3.length c0_3) ∧ w'.cell? ⟨gb310, 4, none⟩ = some (.slice A0_4 l0_4.length c0_4) ∧ w'.cell? ⟨gb310, 5, none⟩ = some (.int .i64 a0_5) ∧ w'.cell? ⟨gb310, 6, none⟩ = some (.int .i64 a0_6) ∧ w'.cell? (ad335.add (x5_2).toNat) = some (.slice A335_0 (rd_L3 l0_3 x5_2).length c335_0)) (ds := [12]) #[false, false, false, false, false, false, false, false, false, false, false, false, false] (by kernel_rfl) rfl rfl ⟨(blk_cell BK312.out 0).trans rfl, (blk_cell BK312.out 1).trans rfl, (blk_cell BK312.out 2).trans rfl, (blk_cell BK312.out 3).trans rfl, (blk_cell BK312.out 4).trans rfl, (blk_cell BK312.out 5).trans rfl, (blk_cell BK312.out 6).trans rfl, (blk_cell BK310.out 0).trans rfl, (blk_cell BK310.out 1).trans rfl, (blk_cell BK310.out 2).trans rfl, (blk_cell BK310.out 3).trans rfl, (blk_cell BK310.out 4).trans rfl, (blk_cell BK310.out 5).trans rfl, (blk_cell BK310.out 6).trans rfl, ((HB.out.cell (World.block_lt_of_cell? w _ hw335_0)).trans hw335_0)⟩ (fun hHeld => ?_); refine with_tabW berthref20_Copy.tab12 berthref20_Copy.bits12 (fun HT_ HW_ => ?_)
             generalize wr.drew = w50 at HO_313000 HO_313001 HO_313002 HO_313003 HO_313004 BK310 BK311 BK312 HB HR335_0 hx335_0 hHeld ⊢
             refine pure_ (i := 0) (N := some 55) (v := ?_) (a' := ?_) #[true, false, false, false, false, false, false, false, false, false, false, false, false] rfl rfl (any_of HT_.out (by kernel_rfl)) (fun _ _ _ h => h) (Or.inl ⟨by rfl, ?_⟩) ?_ ?_
             rotate_left
             ·
              intro w'
              go_simp
              with_reducible rfl
             rotate_left
             ·
              simp only [Act.put, List.setIfInBounds_toArray, List.set_cons_zero, List.set_cons_succ, i64_w, i32_w]
              rfl
             refine pure_ (i := 3) (N := some 58) (v := ?_) (a' := ?_) #[true, false, false, true, false, false, false, false, false, false, false, false, false] rfl rfl (any_of HT_.out (by kernel_rfl)) (fun _ _ _ h => h) (Or.inl ⟨by rfl, ?_⟩) ?_ ?_
             rotate_left
             ·
              intro w'
              go_simp
              with_reducible rfl
             rotate_left
             ·
              simp only [Act.put, List.setIfInBounds_toArray, List.set_cons_zero, List.set_cons_succ, i64_w, i32_w]
              rfl
             refine pure_ (i := 5) (N := some 60) (v := ?_) (a' := ?_) #[true, false, false, true, false, true, false, false, false, false, false, false, false] rfl rfl (any_of HT_.out (by kernel_rfl)) (fun _ _ _ h => h) (Or.inl ⟨by rfl, ?_⟩) ?_ ?_
             rotate_left
             ·
              intro w'
              go_simp
              with_reducible rfl
             rotate_left
             ·
              simp only [Act.put, List.setIfInBounds_toArray, List.set_cons_zero, List.set_cons_succ, i64_w, i32_w]
              rfl
             refine take_ (i := 1) (N := some 56) (v := ?_) (a' := ?_) #[true, true, false, true, false, true, false, false, false, false, false, false, false] rfl rfl (take_ofW HT_.out HW_.out (by kernel_rfl)) (fun _ _ _ h => h) (Or.inl ⟨by rfl, ?_⟩) hHeld ?_ ?_
             rotate_left
             ·
              rintro w' ⟨s0, s1, s2, s3, s4, s5, s6, s7, s8, s9, s10, s11, s12, s13, s14⟩
              go_simp
              with_reducible rfl
             rotate_left
             ·
              simp only [Act.put, List.setIfInBounds_toArray, List.set_cons_zero, List.set_cons_succ, i64_w, i32_w]
              rfl
             refine take_ (i := 4) (N := some 59) (v := ?_) (a' := ?_) #[true, true, false, true, true, true, false, false, false, false, false, false, false] rfl rfl (take_ofW HT_.out HW_.out (by kernel_rfl)) (fun _ _ _ h => h) (Or.inl ⟨by rfl, ?_⟩) hHeld ?_ ?_
             rotate_left
             ·
              rintro w' ⟨s0, s1, s2, s3, s4, s5, s6, s7, s8, s9, s10, s11, s12, s13, s14⟩
              go_simp
              with_reducible rfl
             rotate_left
             ·
              simp only [Act.put, List.setIfInBounds_toArray, List.set_cons_zero, List.set_cons_succ, i64_w, i32_w]
              rfl
             refine pure_ (i := 6) (N := some 61) (v := ?_) (a' := ?_) #[true, true, false, true, true, true, true, false, false, false, false, false, false] rfl rfl (any_of HT_.out (by kernel_rfl)) (fun _ _ _ h => h) (Or.inl ⟨by rfl, ?_⟩) ?_ ?_
             rotate_left
             ·
              intro w'
              go_simp
              with_reducible rfl
             rotate_left
             ·
              simp only [Act.put, List.setIfInBounds_toArray, List.set_cons_zero, List.set_cons_succ, i64_w, i32_w]
              rfl
             refine take_ (i := 7) (N := some 62) (v := ?_) (a' := ?_) #[true, true, false, true, true, true, true, true, false, false, false, false, false] rfl rfl (take_ofW HT_.out HW_.out (by kernel_rfl)) (fun _ _ _ h => h) (Or.inl ⟨by rfl, ?_⟩) hHeld ?_ ?_
             rotate_left
             ·
              rintro w' ⟨s0, s1, s2, s3, s4, s5, s6, s7, s8, s9, s10, s11, s12, s13, s14⟩
              go_simp
              with_reducible rfl
             rotate_left
             ·
              simp only [Act.put, List.setIfInBounds_toArray, List.set_cons_zero, List.set_cons_succ, i64_w, i32_w]
              rfl
             refine one_ (i := 2) (N := some 57) #[true, true, true, true, true, true, true, true, false, false, false, false, false] rfl rfl (one_of HT_.out (by kernel_rfl)) (by decide) (fun K hK => ?_)
             refine Kd.R_lit_step (Kd.int .i64) _ 3 ?hg (N := 57) ?hd (xs := ([] : List Int)) (inner := []) (ok := fun _ => True) (okp := fun _ => True) ?hr ?hp (fun _ hk => hk) trivial (Below.refl _ _) (Nat.le_refl _) (by simp) ?_; (case hd => rfl); (case hg => rfl); (case hr => first | (go_simp; done) | (go_simp; rfl)); (case hp => exact (Reps.none _ _))
             intro v333 w51 ho52 hb hg_ hnew_
             clear hg_ hnew_
             (first | rw [← Ny332.out] at ho52 | (simp only [Int.reduceToNat] at ho52; rw [← Ny332.out] at ho52))
             have n0_ := Aside0.mk (Kd.R_below (by (with_reducible repeat (first | apply Kd.R_alloc | apply Kd.R_drewN | apply Kd.R_drew)); exact HO_313000.out) hb)
             have n1_ := Aside0.mk (Kd.R_elder' (by (with_reducible repeat (first | apply Kd.R_alloc | apply Kd.R_drewN | apply Kd.R_drew)); exact HO_313001.out) (Kd.R_base ho52) hb)
             have n2_ := Aside0.mk (Kd.S_below (by (with_reducible repeat (first | apply Kd.S_alloc | apply Kd.S_drewN | apply Kd.S_drew)); exact HO_313002.out) hb)
             have n3_ := Aside0.mk (Kd.S_elder' (by (with_reducible repeat (first | apply Kd.S_alloc | apply Kd.S_drewN | apply Kd.S_drew)); exact HO_313003.out) (Kd.R_base ho52) hb)
             have n4_ := Aside0.mk (Kd.R_below (by (with_reducible repeat (first | apply Kd.R_alloc | apply Kd.R_drewN | apply Kd.R_drew)); exact HO_313004.out) hb)
             have n5_ := Aside0.mk (Kd.R_lower (Kd.R_new' ho52 (Kd.R_lt (by (with_reducible repeat (first | apply Kd.R_alloc | apply Kd.R_drewN | apply Kd.R_drew)); exact HO_313001.out))) (below_size (by repeat (first | (with_reducible first | exact HB.out | apply below_alloc | apply pw_below_drewN | apply below_drew1 | refine below_set ?_ GE310.out | refine below_set ?_ GE311.out | refine below_set ?_ GE312.out) | exact HB.out))))
             have n6_ := Aside0.mk (blk_below (g := gb310) (o := .cells #[.slice A0_0 l0_0.length c0_0, .slice A0_1 l0_1.length c0_1, .slice A0_2 l0_2.length c0_2, .slice (some ad335) l0_3.length c0_3, .slice A0_4 l0_4.length c0_4, .int .i64 a0_5, .int .i64 a0_6] 32 (0, 0)) (by (with_reducible repeat (first | refine blk_drewN ?_ _ | refine blk_drew ?_ | refine blk_alloc ?_ _)); exact BK310.out) hb)
             have n7_ := Aside0.mk (blk_below (g := gb311) (o := .cells #[.slice none 0 0, .slice none 0 0, .slice none 0 0, .slice none 0 0, .slice none 0 0, .int .i64 0, .int .i64 0] 32 (0, 0)) (by (with_reducible repeat (first | refine blk_drewN ?_ _ | refine blk_drew ?_ | refine blk_alloc ?_ _)); exact BK311.out) hb)
             have n8_ := Aside0.mk (blk_below (g := gb312) (o := .cells #[.slice Ao15 y313.length co15, .slice Ao19 y316.length co19, u313002, u313003, .slice Ao23 y319.length co23, .int .i64 a0_5, .int .i64 a0_6] 32 (0, 0)) (by (with_reducible repeat (first | refine blk_drewN ?_ _ | refine blk_drew ?_ | refine blk_alloc ?_ _)); exact BK312.out) hb)
             have n9_ := Aside0.mk (below_step (by repeat (first | (with_reducible first | exact HB.out | apply below_alloc | apply pw_below_drewN | apply below_drew1 | refine below_set ?_ GE310.out | refine below_set ?_ GE311.out | refine below_set ?_ GE312.out) | exact HB.out)) hb)
             clear HO_313000
             clear HO_313001
             clear HO_313002
             clear HO_313003
             clear HO_313004
             clear BK310
             clear BK311
             clear BK312
             clear HB
             have HO_313000 := n0_
             have HO_313001 := n1_
             have HO_313002 := n2_
             have HO_313003 := n3_
             have HO_313004 := n4_
             have HO334 := n5_
             have BK310 := n6_
             have BK311 := n7_
             have BK312 := n8_
             have HB := n9_
             clear n0_ n1_ n2_ n3_ n4_ n5_ n6_ n7_ n8_ n9_
             clear hb ho52
             refine hK.out _ _ ⟨(blk_cell BK312.out 0).trans rfl, (blk_cell BK312.out 1).trans rfl, (blk_cell BK312.out 2).trans rfl, (blk_cell BK312.out 3).trans rfl, (blk_cell BK312.out 4).trans rfl, (blk_cell BK312.out 5).trans rfl, (blk_cell BK312.out 6).trans rfl, (blk_cell BK310.out 0).trans rfl, (blk_cell BK310.out 1).trans rfl, (blk_cell BK310.out 2).trans rfl, (blk_cell BK310.out 3).trans rfl, (blk_cell BK310.out 4).trans rfl, (blk_cell BK310.out 5).trans rfl, (blk_cell BK310.out 6).trans rfl, ((HB.out.cell (World.block_lt_of_cell? w _ hw335_0)).trans hw335_0)⟩ (fun hHeld => ?_)
             clear hK K
             refine norm_ (a' := ?_) ?_ ?_
             rotate_left
             ·
              show Act.put _ (some 57) _ = _
              simp only [Act.put, List.setIfInBounds_toArray, List.set_cons_zero, List.set_cons_succ, i64_w, i32_w]
              rfl
             refine one_ (i := 8) (N := some 63) #[true, true, true, true, true, true, true, true, true, false, false, false, false] rfl rfl (one_of HT_.out (by kernel_rfl)) (by decide) (fun K hK => ?_)
             refine Kd.R_append_rows_step (Kd.int .i64) (w0 := w) w.heap.size (by rfl) (.tmp 57) (.tmp 62) 27 3 (.int .i64 0) 8 rfl Try.underlying27 info3 rfl (by decide) (by omega) v333 y332 (rd_L3 l0_3 x5_2) _ _ _ (fun k_ => some k_ ≠ (.slice Ao19 y316.length co19 : Value).ownBlock) (fun _ => False) rfl rfl ?aO ?aR (fun _ _ h => h) (fun _ h => h.elim) ?aF ?aB ?aS ?aL ?_
             (case aR => repeat (first | exact (Kd.C_below HR335_0.out HB.out) | (with_reducible refine Kd.C_alloc ?_ _) | (with_reducible refine Kd.C_drewN ?_ _) | (with_reducible refine Kd.C_drew ?_)))
             (case aB => exact (by repeat (first | (with_reducible first | exact HB.out | apply below_alloc | apply pw_below_drewN | apply below_drew1 | refine below_set ?_ GE310.out | refine below_set ?_ GE311.out | refine below_set ?_ GE312.out) | exact HB.out)))
             (case aF => exact (fun k_ hk => Kd.fresh' (Kd.R_lt (by (with_reducible repeat (first | apply Kd.R_alloc | apply Kd.R_drewN | apply Kd.R_drew)); exact HO_313001.out)) k_ hk))
             (case aO => exact (by (with_reducible repeat (first | apply Kd.R_alloc | apply Kd.R_drewN | apply Kd.R_drew)); exact Kd.R_mono HO334.out (fun _ hk => hk.2)))
             (case aS => exact (below_size (by repeat (first | (with_reducible first | exact HB.out | apply below_alloc | apply pw_below_drewN | apply below_drew1 | refine below_set ?_ GE310.out | refine below_set ?_ GE311.out | refine below_set ?_ GE312.out) | exact HB.out))))
             (case aL => have := LMc45.out; omega)
             intro v337 w53 ho hb hg hat
             rw [← Ny336.out] at ho
             have n0_ := Aside0.mk (Kd.R_over' (by (with_reducible repeat (first | apply Kd.R_alloc | apply Kd.R_drewN | apply Kd.R_drew)); exact HO_313000.out) (Kd.R_typed (by (with_reducible repeat (first | apply Kd.R_alloc | apply Kd.R_drewN | apply Kd.R_drew)); exact HO334.out)) (by decide) hg)
             have n1_ := Aside0.mk (Kd.R_after (ok := (fun _ => True)) (by (with_reducible repeat (first | apply Kd.R_alloc | apply Kd.R_drewN | apply Kd.R_drew)); exact HO_313001.out) hg hat)
             have n2_ := Aside0.mk (Kd.S_over' (by (with_reducible repeat (first | apply Kd.S_alloc | apply Kd.S_drewN | apply Kd.S_drew)); exact HO_313002.out) (Kd.R_typed (by (with_reducible repeat (first | apply Kd.R_alloc | apply Kd.R_drewN | apply Kd.R_drew)); exact HO334.out)) (by decide) hg)
             have n3_ := Aside0.mk (Kd.S_after (ok := (fun k_ => some k_ ≠ (.slice Ao19 y316.length co19 : Value).ownBlock)) (by (with_reducible repeat (first | apply Kd.S_alloc | apply Kd.S_drewN | apply Kd.S_drew)); exact HO_313003.out) hg hat)
             have n4_ := Aside0.mk (Kd.R_over' (by (with_reducible repeat (first | apply Kd.R_alloc | apply Kd.R_drewN | apply Kd.R_drew)); exact HO_313004.out) (Kd.R_typed (by (with_reducible repeat (first | apply Kd.R_alloc | apply Kd.R_drewN | apply Kd.R_drew)); exact HO334.out)) (by decide) hg)
             have n5_ := Aside0.mk (blk_grown (g := gb310) (o := .cells #[.slice A0_0 l0_0.length c0_0, .slice A0_1 l0_1.length c0_1, .slice A0_2 l0_2.length c0_2, .slice (some ad335) l0_3.length c0_3, .slice A0_4 l0_4.length c0_4, .int .i64 a0_5, .int .i64 a0_6] 32 (0, 0)) (by (with_reducible repeat (first | refine blk_drewN ?_ _ | refine blk_drew ?_ | refine blk_alloc ?_ _)); exact BK310.out) hg (Kd.R_ne HO334.out BK310.out (by decide)))
             have n6_ := Aside0.mk (blk_grown (g := gb311) (o := .cells #[.slice none 0 0, .slice none 0 0, .slice none 0 0, .slice none 0 0, .slice none 0 0, .int .i64 0, .int .i64 0] 32 (0, 0)) (by (with_reducible repeat (first | refine blk_drewN ?_ _ | refine blk_drew ?_ | refine blk_alloc ?_ _)); exact BK311.out) hg (Kd.R_ne HO334.out BK311.out (by decide)))
             have n7_ := Aside0.mk (blk_grown (g := gb312) (o := .cells #[.slice Ao15 y313.length co15, .slice Ao19 y316.length co19, u313002, u313003, .slice Ao23 y319.length co23, .int .i64 a0_5, .int .i64 a0_6] 32 (0, 0)) (by (with_reducible repeat (first | refine blk_drewN ?_ _ | refine blk_drew ?_ | refine blk_alloc ?_ _)); exact BK312.out) hg (Kd.R_ne HO334.out BK312.out (by decide)))
             have n8_ := Aside0.mk (hb)
             have n9_ := Aside0.mk (ho)
             clear HO_313000
             clear HO_313001
             clear HO_313002
             clear HO_313003
             clear HO_313004
             clear BK310
             clear BK311
             clear BK312
             clear HB
             clear HO334
             have HO_313000 := n0_
             have HO_313001 := n1_
             have HO_313002 := n2_
             have HO_313003 := n3_
             have HO_313004 := n4_
             have BK310 := n5_
             have BK311 := n6_
             have BK312 := n7_
             have HB := n8_
             have HO338 := n9_
             clear n0_ n1_ n2_ n3_ n4_ n5_ n6_ n7_ n8_ n9_
             clear ho hb hg hat
             obtain ⟨Ao55, co55, eo55⟩ := Kd.R_slice HO338.out
             (first | subst eo55 | (injection eo55 with f1_ f2_ f3_; have f4_ := f1_.symm; have f5_ := f3_.symm; clear f1_ f2_ f3_; subst f4_; subst f5_))
             refine hK.out _ _ ⟨(blk_cell BK312.out 0).trans rfl, (blk_cell BK312.out 1).trans rfl, (blk_cell BK312.out 2).trans rfl, (blk_cell BK312.out 3).trans rfl, (blk_cell BK312.out 4).trans rfl, (blk_cell BK312.out 5).trans rfl, (blk_cell BK312.out 6).trans rfl, (blk_cell BK310.out 0).trans rfl, (blk_cell BK310.out 1).trans rfl, (blk_cell BK310.out 2).trans rfl, (blk_cell BK310.out 3).trans rfl, (blk_cell BK310.out 4).trans rfl, (blk_cell BK310.out 5).trans rfl, (blk_cell BK310.out 6).trans rfl, ((HB.out.cell (World.block_lt_of_cell? w _ hw335_0)).trans hw335_0)⟩ (fun hHeld => ?_)
             clear hK K
             refine norm_ (a' := ?_) ?_ ?_
             rotate_left
             ·
              show Act.put _ (some 63) _ = _
              simp only [Act.put, List.setIfInBounds_toArray, List.set_cons_zero, List.set_cons_succ, i64_w, i32_w]
              rfl
             refine one_ (i := 9) (N := some 64) #[true, true, true, true, true, true, true, true, true, true, false, false, false] rfl rfl (one_of HT_.out (by kernel_rfl)) (by decide) (fun K hK => ?_)
             refine value_ (w1 := ?_) (v := ?_) (by rfl) rfl ?_ ?_
             rotate_left 2
             ·
              go_simp
              constructor
              ·
               rfl
              ·
               rfl
             refine hK.out _ _ ⟨(blk_cell (blk_alloc BK312.out _) 0).trans rfl, (blk_cell (blk_alloc BK312.out _) 1).trans rfl, (blk_cell (blk_alloc BK312.out _) 2).trans rfl, (blk_cell (blk_alloc BK312.out _) 3).trans rfl, (blk_cell (blk_alloc BK312.out _) 4).trans rfl, (blk_cell (blk_alloc BK312.out _) 5).trans rfl, (blk_cell (blk_alloc BK312.out _) 6).trans rfl, (blk_cell (blk_alloc BK310.out _) 0).trans rfl, (blk_cell (blk_alloc BK310.out _) 1).trans rfl, (blk_cell (blk_alloc BK310.out _) 2).trans rfl, (blk_cell (blk_alloc BK310.out _) 3).trans rfl, (blk_cell (blk_alloc BK310.out _) 4).trans rfl, (blk_cell (blk_alloc BK310.out _) 5).trans rfl, (blk_cell (blk_alloc BK310.out _) 6).trans rfl, (World.cell?_alloc_lt _ _ _ (World.block_lt_of_cell? _ _ (((HB.out.cell (World.block_lt_of_cell? w _ hw335_0)).trans hw335_0)))).trans (((HB.out.cell (World.block_lt_of_cell? w _ hw335_0)).trans hw335_0))⟩ (fun hHeld => ?_)
             clear hK K
             refine norm_ (a' := ?_) ?_ ?_
             rotate_left
             ·
              show Act.put _ (some 64) _ = _
              simp only [Act.put, List.setIfInBounds_toArray, List.set_cons_zero, List.set_cons_succ, i64_w, i32_w]
              rfl
             refine one_ (i := 10) (N := some 65) #[true, true, true, true, true, true, true, true, true, true, true, false, false] rfl rfl (one_of HT_.out (by kernel_rfl)) (by decide) (fun K hK => ?_)
             refine Kd.S_append_step (Kd.slice 3 (Kd.int .i64)) (w0 := w) w.heap.size (by rfl) (.tmp 56) (.tmp 64) 29 27 (.slice none 0 0) 24 rfl Try.underlying29 info27 rfl (by decide) (by omega) u313003 x313003_2 y336 [.slice Ao55 y336.length co55] (fun k_ => some k_ ≠ (.slice Ao19 y316.length co19 : Value).ownBlock) (fun k_ => some k_ = (.slice Ao55 y336.length co55 : Value).ownBlock) rfl rfl ?aP (fun k_ hk_ => ((Kd.R_mono (ok' := fun k_ => ((fun k_ => some k_ ≠ (.slice Ao19 y316.length co19 : Value).ownBlock)) k_ ∧ some k_ ≠ (u313003 : Value).ownBlock) (Kd.R_apart' (HO338.out) (Kd.S_typed HO_313003.out) (by decide)) (fun k_ hk => ⟨hk.1, hk.2⟩))).1 k_ hk_.symm) ?aF ?aO ?aB ?aS ?aL ?_
             (case aP => exact Kd.M_row (Kd.R_mono (Kd.R_tight rfl (Kd.R_mono (ok' := fun k_ => ((fun k_ => some k_ ≠ (.slice Ao19 y316.length co19 : Value).ownBlock)) k_ ∧ some k_ ≠ (u313003 : Value).ownBlock) (Kd.R_apart' (HO338.out) (Kd.S_typed HO_313003.out) (by decide)) (fun k_ hk => ⟨hk.1, hk.2⟩))) (fun _ h_ => h_)))
             (case aB => exact (by repeat (first | (with_reducible first | exact HB.out | apply below_alloc | apply pw_below_drewN | apply below_drew1 | refine below_set ?_ GE310.out | refine below_set ?_ GE311.out | refine below_set ?_ GE312.out) | exact HB.out)))
             (case aF => exact (fun k_ hk => Kd.fresh' (Kd.R_lt (by (with_reducible repeat (first | apply Kd.R_alloc | apply Kd.R_drewN | apply Kd.R_drew)); exact HO_313001.out)) k_ hk))
             (case aO => exact (by (with_reducible repeat (first | apply Kd.S_alloc | apply Kd.S_drewN | apply Kd.S_drew)); exact Kd.S_mono HO_313003.out (fun k_ hk => ⟨hk.1, fun e_ => hk.2 e_⟩)))
             (case aS => exact (below_size (by repeat (first | (with_reducible first | exact HB.out | apply below_alloc | apply pw_below_drewN | apply below_drew1 | refine below_set ?_ GE310.out | refine below_set ?_ GE311.out | refine below_set ?_ GE312.out) | exact HB.out))))
             (case aL => have := LMc46.out; omega)
             intro v340 w54 ho hb hg hat
             rw [← Ny339.out] at ho
             have n0_ := Aside0.mk (Kd.R_over' (by (with_reducible repeat (first | apply Kd.R_alloc | apply Kd.R_drewN | apply Kd.R_drew)); exact HO_313000.out) (Kd.S_typed (by (with_reducible repeat (first | apply Kd.S_alloc | apply Kd.S_drewN | apply Kd.S_drew)); exact HO_313003.out)) (by decide) hg)
             have n1_ := Aside0.mk (Kd.R_over' (by (with_reducible repeat (first | apply Kd.R_alloc | apply Kd.R_drewN | apply Kd.R_drew)); exact HO_313001.out) (Kd.S_typed (by (with_reducible repeat (first | apply Kd.S_alloc | apply Kd.S_drewN | apply Kd.S_drew)); exact HO_313003.out)) (by decide) hg)
             have n2_ := Aside0.mk (Kd.S_over' (by (with_reducible repeat (first | apply Kd.S_alloc | apply Kd.S_drewN | apply Kd.S_drew)); exact HO_313002.out) (Kd.S_typed (by (with_reducible repeat (first | apply Kd.S_alloc | apply Kd.S_drewN | apply Kd.S_drew)); exact HO_313003.out)) (by decide) hg)
             have n3_ := Aside0.mk (Kd.R_over' (by (with_reducible repeat (first | apply Kd.R_alloc | apply Kd.R_drewN | apply Kd.R_drew)); exact HO_313004.out) (Kd.S_typed (by (with_reducible repeat (first | apply Kd.S_alloc | apply Kd.S_drewN | apply Kd.S_drew)); exact HO_313003.out)) (by decide) hg)
             have n4_ := Aside0.mk (blk_grown (g := gb310) (o := .cells #[.slice A0_0 l0_0.length c0_0, .slice A0_1 l0_1.length c0_1, .slice A0_2 l0_2.length c0_2, .slice (some ad335) l0_3.length c0_3, .slice A0_4 l0_4.length c0_4, .int .i64 a0_5, .int .i64 a0_6] 32 (0, 0)) (by (with_reducible repeat (first | refine blk_drewN ?_ _ | refine blk_drew ?_ | refine blk_alloc ?_ _)); exact BK310.out) hg (Kd.S_ne HO_313003.out BK310.out (by decide)))
             have n5_ := Aside0.mk (blk_grown (g := gb311) (o := .cells #[.slice none 0 0, .slice none 0 0, .slice none 0 0, .slice none 0 0, .slice none 0 0, .int .i64 0, .int .i64 0] 32 (0, 0)) (by (with_reducible repeat (first | refine blk_drewN ?_ _ | refine blk_drew ?_ | refine blk_alloc ?_ _)); exact BK311.out) hg (Kd.S_ne HO_313003.out BK311.out (by decide)))
             have n6_ := Aside0.mk (blk_grown (g := gb312) (o := .cells #[.slice Ao15 y313.length co15, .slice Ao19 y316.length co19, u313002, u313003, .slice Ao23 y319.length co23, .int .i64 a0_5, .int .i64 a0_6] 32 (0, 0)) (by (with_reducible repeat (first | refine blk_drewN ?_ _ | refine blk_drew ?_ | refine blk_alloc ?_ _)); exact BK312.out) hg (Kd.S_ne HO_313003.out BK312.out (by decide)))
             have n7_ := Aside0.mk (hb)
             have n8_ := Aside0.mk (ho)
             clear HO_313000
             clear HO_313001
             clear HO_313002
             clear HO_313004
             clear BK310
             clear BK311
             clear BK312
             clear HB
             clear HO_313003
             clear HO338
             have HO_313000 := n0_
             have HO_313001 := n1_
             have HO_313002 := n2_
             have HO_313004 := n3_
             have BK310 := n4_
             have BK311 := n5_
             have BK312 := n6_
             have HB := n7_
             have HO341 := n8_
             clear n0_ n1_ n2_ n3_ n4_ n5_ n6_ n7_ n8_
             clear ho hb hg hat
             obtain ⟨Ao56, co56, eo56⟩ := Kd.S_slice HO341.out
             (first | subst eo56 | (injection eo56 with f1_ f2_ f3_; have f4_ := f1_.symm; have f5_ := f3_.symm; clear f1_ f2_ f3_; subst f4_; subst f5_))
             refine hK.out _ _ ⟨(blk_cell BK312.out 0).trans rfl, (blk_cell BK312.out 1).trans rfl, (blk_cell BK312.out 2).trans rfl, (blk_cell BK312.out 3).trans rfl, (blk_cell BK312.out 4).trans rfl, (blk_cell BK312.out 5).trans rfl, (blk_cell BK312.out 6).trans rfl, (blk_cell BK310.out 0).trans rfl, (blk_cell BK310.out 1).trans rfl, (blk_cell BK310.out 2).trans rfl, (blk_cell BK310.out 3).trans rfl, (blk_cell BK310.out 4).trans rfl, (blk_cell BK310.out 5).trans rfl, (blk_cell BK310.out 6).trans rfl, ((HB.out.cell (World.block_lt_of_cell? w _ hw335_0)).trans hw335_0)⟩ (fun hHeld => ?_)
             clear hK K
             refine norm_ (a' := ?_) ?_ ?_
             rotate_left
             ·
              show Act.put _ (some 65) _ = _
              simp only [Act.put, List.setIfInBounds_toArray, List.set_cons_zero, List.set_cons_succ, i64_w, i32_w]
              rfl
             refine pure_ (i := 11) (N := some 66) (v := ?_) (a' := ?_) #[true, true, true, true, true, true, true, true, true, true, true, true, false] rfl rfl (any_of HT_.out (by kernel_rfl)) (fun _ _ _ h => h) (Or.inl ⟨by rfl, ?_⟩) ?_ ?_
             rotate_left
             ·
              intro w'
              go_simp
              with_reducible rfl
             rotate_left
             ·
              simp only [Act.put, List.setIfInBounds_toArray, List.set_cons_zero, List.set_cons_succ, i64_w, i32_w]
              rfl
             refine last_ (i := 12) (N := none) #[true, true, true, true, true, true, true, true, true, true, true, true, true] rfl rfl (one_of HT_.out (by kernel_rfl)) (by decide) (fun K hK => ?_)
             have hs57 : w54.cell? ⟨gb312, 3, none⟩ = some (u313003) := (blk_cell BK312.out 3).trans rfl
             have hfs57 := blk_frozen BK312.out 3
             have hns57_0 := NB310_312.out
             have hns57_1 := NB311_312.out
             have hms57_0 := NB312_310.out
             have hms57_1 := NB312_311.out
             refine skip_ (w1 := ?_) (by rfl) rfl ?_ ?_
             rotate_left
             ·
              go_simp
              rfl
             refine hK.out _ _ ?_
             clear hK K
             refine done_ (done_of HT_.out (by kernel_rfl)) ?_
             try go_wp2
             go_roundg k2
             case measure => have := HK1.out; have := HK2.out; omega
             case rel => exact ⟨(wrap64 (x5_2 + 1)), (y339), (.slice Ao56 y339.length co56), (by first | rfl | (simp; done) | (simp [*]; done) | (simp only [i64_w]; done) | (simp [i64_w, Int.tdiv_eq_ediv_of_nonneg]; done)), H', ⟨by have := HK1.out; have := HK2.out; omega⟩, ⟨by (with_reducible repeat (first | apply Kd.R_alloc | apply Kd.R_drewN | apply Kd.R_drew)); exact Kd.R_mono (Kd.R_far (p := ⟨gb312, 3, none⟩) (Kd.R_types HO_313000.out BK312.out (by decide)) (fun _ hk => hk.2) (.slice Ao56 y339.length co56)) (fun _ hk => trivial)⟩, ⟨by (with_reducible repeat (first | apply Kd.R_alloc | apply Kd.R_drewN | apply Kd.R_drew)); exact Kd.R_mono (Kd.R_far (p := ⟨gb312, 3, none⟩) (Kd.R_types HO_313001.out BK312.out (by decide)) (fun _ hk => hk.2) (.slice Ao56 y339.length co56)) (fun _ hk => trivial)⟩, ⟨by (with_reducible repeat (first | apply Kd.S_alloc | apply Kd.S_drewN | apply Kd.S_drew)); exact Kd.S_mono (Kd.S_far (p := ⟨gb312, 3, none⟩) (Kd.S_types HO_313002.out BK312.out (by decide)) (fun _ hk => hk.2) (.slice Ao56 y339.length co56)) (fun _ hk => hk.1)⟩, ⟨by (with_reducible repeat (first | apply Kd.S_alloc | apply Kd.S_drewN | apply Kd.S_drew)); exact Kd.S_mono (Kd.S_far (p := ⟨gb312, 3, none⟩) (Kd.S_types HO341.out BK312.out (by decide)) (fun _ hk => hk.2) (.slice Ao56 y339.length co56)) (fun _ hk => hk.1)⟩, ⟨by (with_reducible repeat (first | apply Kd.R_alloc | apply Kd.R_drewN | apply Kd.R_drew)); exact Kd.R_mono (Kd.R_far (p := ⟨gb312, 3, none⟩) (Kd.R_types HO_313004.out BK312.out (by decide)) (fun _ hk => hk.2) (.slice Ao56 y339.length co56)) (fun _ hk => trivial)⟩, ⟨by (with_reducible repeat (first | refine blk_drewN ?_ _ | refine blk_drew ?_ | refine blk_alloc ?_ _)); refine blk_far ?_ NB310_312.out _; (with_reducible repeat (first | refine blk_drewN ?_ _ | refine blk_drew ?_ | refine blk_alloc ?_ _)); exact BK310.out⟩, ⟨by (with_reducible repeat (first | refine blk_drewN ?_ _ | refine blk_drew ?_ | refine blk_alloc ?_ _)); refine blk_far ?_ NB311_312.out _; (with_reducible repeat (first | refine blk_drewN ?_ _ | refine blk_drew ?_ | refine blk_alloc ?_ _)); exact BK311.out⟩, ⟨by (with_reducible repeat (first | refine blk_drewN ?_ _ | refine blk_drew ?_ | refine blk_alloc ?_ _)); refine blk_put (cs := #[.slice Ao15 y313.length co15, .slice Ao19 y316.length co19, u313002, u313003, .slice Ao23 y319.length co23, .int .i64 a0_5, .int .i64 a0_6]) ?_ 3 _ rfl; (with_reducible repeat (first | refine blk_drewN ?_ _ | refine blk_drew ?_ | refine blk_alloc ?_ _)); exact BK312.out⟩, ⟨by repeat (first | (with_reducible first | exact HB.out | apply below_alloc | apply pw_below_drewN | apply below_drew1 | refine below_set ?_ GE310.out | refine below_set ?_ GE311.out | refine below_set ?_ GE312.out) | exact HB.out)⟩⟩
            ·
             rw [if_neg c46] at H
             exact absurd H (by simp)
           ·
            rw [if_neg c45] at H
            exact absurd H (by simp)
          ·
           rw [if_neg c44] at H
           exact absurd H (by simp)
         ·
          rw [if_neg c43] at H
          have c43b0 : decide (x5_2 < (l0_3.length : Int)) = false := decide_eq_false c43
          clear c43
          simp only [Option.some.injEq, Prod.mk.injEq] at H
          obtain ⟨rfl, rfl, rfl, rfl, rfl, rfl, rfl⟩ := H
          have hnb58 := NB310_311.out
          have hnc58 := NB311_310.out
          have hnb59 := NB310_312.out
          have hnc59 := NB312_310.out
          have hcz60_0 : wr.cell? ⟨gb310, 0, none⟩ = some (.slice A0_0 l0_0.length c0_0) := (blk_cell BK310.out 0).trans rfl
          have hcz60_1 : wr.cell? ⟨gb310, 1, none⟩ = some (.slice A0_1 l0_1.length c0_1) := (blk_cell BK310.out 1).trans rfl
          have hcz60_2 : wr.cell? ⟨gb310, 2, none⟩ = some (.slice A0_2 l0_2.length c0_2) := (blk_cell BK310.out 2).trans rfl
          have hcz60_3 : wr.cell? ⟨gb310, 3, none⟩ = some (.slice A0_3 l0_3.length c0_3) := (blk_cell BK310.out 3).trans rfl
          have hcz60_4 : wr.cell? ⟨gb310, 4, none⟩ = some (.slice A0_4 l0_4.length c0_4) := (blk_cell BK310.out 4).trans rfl
          have hcz60_5 : wr.cell? ⟨gb310, 5, none⟩ = some (.int .i64 a0_5) := (blk_cell BK310.out 5).trans rfl
          have hcz60_6 : wr.cell? ⟨gb310, 6, none⟩ = some (.int .i64 a0_6) := (blk_cell BK310.out 6).trans rfl
          have hfz60_0 := blk_frozen BK310.out 0
          have hfz60_1 := blk_frozen BK310.out 1
          have hfz60_2 := blk_frozen BK310.out 2
          have hfz60_3 := blk_frozen BK310.out 3
          have hfz60_4 := blk_frozen BK310.out 4
          have hfz60_5 := blk_frozen BK310.out 5
          have hfz60_6 := blk_frozen BK310.out 6
          have hnb61 := NB312_311.out
          have hnc61 := NB311_312.out
          have hcz62_0 : wr.cell? ⟨gb312, 0, none⟩ = some (.slice Ao15 y313.length co15) := (blk_cell BK312.out 0).trans rfl
          have hcz62_1 : wr.cell? ⟨gb312, 1, none⟩ = some (.slice Ao19 y316.length co19) := (blk_cell BK312.out 1).trans rfl
          have hcz62_2 : wr.cell? ⟨gb312, 2, none⟩ = some (u313002) := (blk_cell BK312.out 2).trans rfl
          have hcz62_3 : wr.cell? ⟨gb312, 3, none⟩ = some (u313003) := (blk_cell BK312.out 3).trans rfl
          have hcz62_4 : wr.cell? ⟨gb312, 4, none⟩ = some (.slice Ao23 y319.length co23) := (blk_cell BK312.out 4).trans rfl
          have hcz62_5 : wr.cell? ⟨gb312, 5, none⟩ = some (.int .i64 a0_5) := (blk_cell BK312.out 5).trans rfl
          have hcz62_6 : wr.cell? ⟨gb312, 6, none⟩ = some (.int .i64 a0_6) := (blk_cell BK312.out 6).trans rfl
          have hfz62_0 := blk_frozen BK312.out 0
          have hfz62_1 := blk_frozen BK312.out 1
          have hfz62_2 := blk_frozen BK312.out 2
          have hfz62_3 := blk_frozen BK312.out 3
          have hfz62_4 := blk_frozen BK312.out 4
          have hfz62_5 := blk_frozen BK312.out 5
          have hfz62_6 := blk_frozen BK312.out 6
          have hcz63_0 : wr.cell? ⟨gb311, 0, none⟩ = some (.slice none 0 0) := (blk_cell BK311.out 0).trans rfl
          have hcz63_1 : wr.cell? ⟨gb311, 1, none⟩ = some (.slice none 0 0) := (blk_cell BK311.out 1).trans rfl
          have hcz63_2 : wr.cell? ⟨gb311, 2, none⟩ = some (.slice none 0 0) := (blk_cell BK311.out 2).trans rfl
          have hcz63_3 : wr.cell? ⟨gb311, 3, none⟩ = some (.slice none 0 0) := (blk_cell BK311.out 3).trans rfl
          have hcz63_4 : wr.cell? ⟨gb311, 4, none⟩ = some (.slice none 0 0) := (blk_cell BK311.out 4).trans rfl
          have hcz63_5 : wr.cell? ⟨gb311, 5, none⟩ = some (.int .i64 0) := (blk_cell BK311.out 5).trans rfl
          have hcz63_6 : wr.cell? ⟨gb311, 6, none⟩ = some (.int .i64 0) := (blk_cell BK311.out 6).trans rfl
          have hfz63_0 := blk_frozen BK311.out 0
          have hfz63_1 := blk_frozen BK311.out 1
          have hfz63_2 := blk_frozen BK311.out 2
          have hfz63_3 := blk_frozen BK311.out 3
          have hfz63_4 := blk_frozen BK311.out 4
          have hfz63_5 := blk_frozen BK311.out 5
          have hfz63_6 := blk_frozen BK311.out 6
          obtain ⟨Ao64, co64, eo64⟩ := Kd.S_slice HO_313002.out
          subst eo64
          obtain ⟨Ao65, co65, eo65⟩ := Kd.S_slice HO_313003.out
          subst eo65
          go_wp2
          refine bodyPost_ret (results_cell_row rfl _ _ gb311 32 #[.slice Ao15 y313.length co15, .slice Ao19 y316.length co19, .slice Ao64 x313002_1.length co64, .slice Ao65 x313003_2.length co65, .slice Ao23 y319.length co23, .int .i64 a0_5, .int .i64 a0_6] (0, 0) _ rfl (by (with_reducible repeat (first | refine blk_drewN ?_ _ | refine blk_drew ?_ | refine blk_alloc ?_ _)); refine blk_put (cs := #[.slice Ao15 y313.length co15, .slice Ao19 y316.length co19, .slice Ao64 x313002_1.length co64, .slice Ao65 x313003_2.length co65, .slice Ao23 y319.length co23, .int .i64 a0_5, .int .i64 0]) ?_ 6 _ rfl; (with_reducible repeat (first | refine blk_drewN ?_ _ | refine blk_drew ?_ | refine blk_alloc ?_ _)); refine blk_put (cs := #[.slice Ao15 y313.length co15, .slice Ao19 y316.length co19, .slice Ao64 x313002_1.length co64, .slice Ao65 x313003_2.length co65, .slice Ao23 y319.length co23, .int .i64 0, .int .i64 0]) ?_ 5 _ rfl; (with_reducible repeat (first | refine blk_drewN ?_ _ | refine blk_drew ?_ | refine blk_alloc ?_ _)); refine blk_put (cs := #[.slice Ao15 y313.length co15, .slice Ao19 y316.length co19, .slice Ao64 x313002_1.length co64, .slice Ao65 x313003_2.length co65, .slice none 0 0, .int .i64 0, .int .i64 0]) ?_ 4 _ rfl; (with_reducible repeat (first | refine blk_drewN ?_ _ | refine blk_drew ?_ | refine blk_alloc ?_ _)); refine blk_put (cs := #[.slice Ao15 y313.length co15, .slice Ao19 y316.length co19, .slice Ao64 x313002_1.length co64, .slice none 0 0, .slice none 0 0, .int .i64 0, .int .i64 0]) ?_ 3 _ rfl; (with_reducible repeat (first | refine blk_drewN ?_ _ | refine blk_drew ?_ | refine blk_alloc ?_ _)); refine blk_put (cs := #[.slice Ao15 y313.length co15, .slice Ao19 y316.length co19, .slice none 0 0, .slice none 0 0, .slice none 0 0, .int .i64 0, .int .i64 0]) ?_ 2 _ rfl; (with_reducible repeat (first | refine blk_drewN ?_ _ | refine blk_drew ?_ | refine blk_alloc ?_ _)); refine blk_put (cs := #[.slice Ao15 y313.length co15, .slice none 0 0, .slice none 0 0, .slice none 0 0, .slice none 0 0, .int .i64 0, .int .i64 0]) ?_ 1 _ rfl; (with_reducible repeat (first | refine blk_drewN ?_ _ | refine blk_drew ?_ | refine blk_alloc ?_ _)); refine blk_put (cs := #[.slice none 0 0, .slice none 0 0, .slice none 0 0, .slice none 0 0, .slice none 0 0, .int .i64 0, .int .i64 0]) ?_ 0 _ rfl; (with_reducible repeat (first | refine blk_drewN ?_ _ | refine blk_drew ?_ | refine blk_alloc ?_ _)); exact BK311.out) Try.underlying32 rfl (by kernel_rfl)) rfl ?_
          exact ⟨_, _, _, _, _, by first | rfl | (simp [errW_none, errW_some] <;> rfl) | (simp [*, errW_none, errW_some] <;> rfl), by (with_reducible repeat (first | apply Kd.R_alloc | apply Kd.R_drewN | apply Kd.R_drew)); exact Kd.R_mono (Kd.R_far (p := ⟨gb311, 6, none⟩) (Kd.R_far (p := ⟨gb311, 5, none⟩) (Kd.R_far (p := ⟨gb311, 4, none⟩) (Kd.R_far (p := ⟨gb311, 3, none⟩) (Kd.R_far (p := ⟨gb311, 2, none⟩) (Kd.R_far (p := ⟨gb311, 1, none⟩) (Kd.R_far (p := ⟨gb311, 0, none⟩) (Kd.R_types HO_313000.out BK311.out (by decide)) (fun _ hk => hk.2) (.slice Ao15 y313.length co15)) (fun _ hk => hk.2) (.slice Ao19 y316.length co19)) (fun _ hk => hk.2) (.slice Ao64 x313002_1.length co64)) (fun _ hk => hk.2) (.slice Ao65 x313003_2.length co65)) (fun _ hk => hk.2) (.slice Ao23 y319.length co23)) (fun _ hk => hk.2) (.int .i64 a0_5)) (fun _ hk => hk.2) (.int .i64 a0_6)) (fun _ hk => trivial), by (with_reducible repeat (first | apply Kd.R_alloc | apply Kd.R_drewN | apply Kd.R_drew)); exact Kd.R_mono (Kd.R_far (p := ⟨gb311, 6, none⟩) (Kd.R_far (p := ⟨gb311, 5, none⟩) (Kd.R_far (p := ⟨gb311, 4, none⟩) (Kd.R_far (p := ⟨gb311, 3, none⟩) (Kd.R_far (p := ⟨gb311, 2, none⟩) (Kd.R_far (p := ⟨gb311, 1, none⟩) (Kd.R_far (p := ⟨gb311, 0, none⟩) (Kd.R_types HO_313001.out BK311.out (by decide)) (fun _ hk => hk.2) (.slice Ao15 y313.length co15)) (fun _ hk => hk.2) (.slice Ao19 y316.length co19)) (fun _ hk => hk.2) (.slice Ao64 x313002_1.length co64)) (fun _ hk => hk.2) (.slice Ao65 x313003_2.length co65)) (fun _ hk => hk.2) (.slice Ao23 y319.length co23)) (fun _ hk => hk.2) (.int .i64 a0_5)) (fun _ hk => hk.2) (.int .i64 a0_6)) (fun _ hk => trivial), by (with_reducible repeat (first | apply Kd.S_alloc | apply Kd.S_drewN | apply Kd.S_drew)); exact Kd.S_mono (Kd.S_far (p := ⟨gb311, 6, none⟩) (Kd.S_far (p := ⟨gb311, 5, none⟩) (Kd.S_far (p := ⟨gb311, 4, none⟩) (Kd.S_far (p := ⟨gb311, 3, none⟩) (Kd.S_far (p := ⟨gb311, 2, none⟩) (Kd.S_far (p := ⟨gb311, 1, none⟩) (Kd.S_far (p := ⟨gb311, 0, none⟩) (Kd.S_types HO_313002.out BK311.out (by decide)) (fun _ hk => hk.2) (.slice Ao15 y313.length co15)) (fun _ hk => hk.2) (.slice Ao19 y316.length co19)) (fun _ hk => hk.2) (.slice Ao64 x313002_1.length co64)) (fun _ hk => hk.2) (.slice Ao65 x313003_2.length co65)) (fun _ hk => hk.2) (.slice Ao23 y319.length co23)) (fun _ hk => hk.2) (.int .i64 a0_5)) (fun _ hk => hk.2) (.int .i64 a0_6)) (fun _ hk => hk.1), by (with_reducible repeat (first | apply Kd.S_alloc | apply Kd.S_drewN | apply Kd.S_drew)); exact Kd.S_mono (Kd.S_far (p := ⟨gb311, 6, none⟩) (Kd.S_far (p := ⟨gb311, 5, none⟩) (Kd.S_far (p := ⟨gb311, 4, none⟩) (Kd.S_far (p := ⟨gb311, 3, none⟩) (Kd.S_far (p := ⟨gb311, 2, none⟩) (Kd.S_far (p := ⟨gb311, 1, none⟩) (Kd.S_far (p := ⟨gb311, 0, none⟩) (Kd.S_types HO_313003.out BK311.out (by decide)) (fun _ hk => hk.2) (.slice Ao15 y313.length co15)) (fun _ hk => hk.2) (.slice Ao19 y316.length co19)) (fun _ hk => hk.2) (.slice Ao64 x313002_1.length co64)) (fun _ hk => hk.2) (.slice Ao65 x313003_2.length co65)) (fun _ hk => hk.2) (.slice Ao23 y319.length co23)) (fun _ hk => hk.2) (.int .i64 a0_5)) (fun _ hk => hk.2) (.int .i64 a0_6)) (fun _ hk => hk.1), by (with_reducible repeat (first | apply Kd.R_alloc | apply Kd.R_drewN | apply Kd.R_drew)); exact Kd.R_mono (Kd.R_far (p := ⟨gb311, 6, none⟩) (Kd.R_far (p := ⟨gb311, 5, none⟩) (Kd.R_far (p := ⟨gb311, 4, none⟩) (Kd.R_far (p := ⟨gb311, 3, none⟩) (Kd.R_far (p := ⟨gb311, 2, none⟩) (Kd.R_far (p := ⟨gb311, 1, none⟩) (Kd.R_far (p := ⟨gb311, 0, none⟩) (Kd.R_types HO_313004.out BK311.out (by decide)) (fun _ hk => hk.2) (.slice Ao15 y313.length co15)) (fun _ hk => hk.2) (.slice Ao19 y316.length co19)) (fun _ hk => hk.2) (.slice Ao64 x313002_1.length co64)) (fun _ hk => hk.2) (.slice Ao65 x313003_2.length co65)) (fun _ hk => hk.2) (.slice Ao23 y319.length co23)) (fun _ hk => hk.2) (.int .i64 a0_5)) (fun _ hk => hk.2) (.int .i64 a0_6)) (fun _ hk => trivial), by repeat (first | (with_reducible first | exact HB.out | apply below_alloc | apply pw_below_drewN | apply below_drew1 | refine below_set ?_ GE310.out | refine below_set ?_ GE311.out | refine below_set ?_ GE312.out) | exact HB.out)⟩
   ·
    rw [if_neg c4] at H
    exact absurd H (by simp)
  ·
   rw [if_neg c3] at H
   exact absurd H (by simp)
 ·
  rw [if_neg c2] at H
  exact absurd H (by simp)
end Go.Proofs.Ytlocnfkkfpfpfaa.Six
