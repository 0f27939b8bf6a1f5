/- What an instruction does on a way: its walk. -/
import Derived.Test.YtbnplhmmbnmagaazARm27
import Derived.Test.YtbnplhmmbnmagaazARm6
namespace Go.Proofs.Ytbnplhmmbnmagaa.D
open Go.RowKit Go.Proofs.YtbnplhmmbnmagaaW.PrintWords Go.Proofs.YtbnplhmmbnmagaaW.PrintLast Go.Proofs.YtbnplhmmbnmagaaW.PrintMore Go.Proofs.Ytbnplhmmbnmagaa.All
set_option linter.unusedSimpArgs false
set_option linter.unusedVariables false
def does.T26 : Bool × List (List Nat × List Nat) := (true, [([], []), ([], []), ([1], [1]), ([2], [2]), ([3], [3]), ([], []), ([5], [5]), ([4, 6], [4, 6]), ([7], [7]), ([0, 8], [0, 8])])
def does.B26 : List Nat := [0, 0, 2, 6, 14, 0, 32, 126, 254, 511]
theorem does.tab26 : rtab .any (opsOf Try.f21 26) = does.T26 := by kernel_rfl
theorem does.bits26 : waitsOk does.T26.2 does.B26 = true := by kernel_rfl
def does.T36 : Bool × List (List Nat × List Nat) := (true, [([], []), ([0], [0]), ([], []), ([], []), ([2, 3], [2, 3]), ([4], [4]), ([1, 5], [1, 5])])
def does.B36 : List Nat := [0, 1, 0, 0, 12, 28, 63]
theorem does.tab36 : rtab .any (opsOf Try.f21 36) = does.T36 := by kernel_rfl
theorem does.bits36 : waitsOk does.T36.2 does.B36 = true := by kernel_rfl
theorem Way.lt {W : World} {base G : Nat} {at_ : Int} {stk loc : List Int} {deep : Int} (h : Way W base G at_ stk loc deep) : G < W.heap.size := by
  obtain ⟨A, c, vl, hG, -⟩ := h.cells
  exact blk_lt hG
theorem bitmap_yes (a : Int) (ha : a = 1 ∨ a = 2) (w : World) : Calls Try.prog 37 #[.int .i64 a] w fun e w' => e = .returned (.bool true) ∧ Drawn0 w w' :=
  berthlaw21_bitmap.calls a true w (by unfold berthlaw21_bitmap.f; rcases ha with rfl | rfl <;> rfl)
theorem Drawn0.below {w w' : World} (h : Drawn0 w w') : Below w.heap.size w w' := by
  obtain ⟨n, rfl⟩ := h
  exact pw_below_drewN (Below.refl _ _) n
def DoesEnd (W : World) (base G : Nat) (deep : Int) (at2 : Int) (stk2 loc2 : List Int) (e : Ending) (w' : World) : Prop :=
  e = .returned (.bool true) ∧ (∃ d, Way w' base G at2 stk2 loc2 d ∧ (d ≤ deep ∨ d ≤ stk2.length)) ∧ Below base W w'
set_option maxHeartbeats 4000000 in
set_option maxRecDepth 100000 in
theorem does_two (W : World) (base G : Nat) (at_ deep f0 f1 f2 f3 : Int) (s : List Int) (a : Int) (loc : List Int) (jump : Bool) (p0 p1 p2 p3 p4 p5 p6 : Value) (h : Way W base G at_ (s ++ [a, a]) loc deep) (hbW : base ≤ W.heap.size) (hl : s.length ≤ 10000) (h0 : 0 ≤ at_) (h1 : at_ ≤ 100000) (hop : f0 = 27 ∨ f0 = 28 ∨ f0 = 29) (ha : a = 1 ∨ a = 2) :
 Calls Try.prog 21 #[.pointer (some ⟨G, 0, none⟩), .agg #[p0, p1, p2, p3, p4, p5, p6], .agg #[.int .i64 f0, .int .i64 f1, .int .i64 f2, .int .i64 f3], .bool jump] W (DoesEnd W base G deep (at_ + 1) (s ++ [a]) loc) := by
 rw [show s ++ [a, a] = (s ++ [a]) ++ [a] by simp] at h
 have hw0 := h.below (two_allocs W (.cells #[p0, p1, p2, p3, p4, p5, p6] 28) (.cells #[.int .i64 f0, .int .i64 f1, .int .i64 f2, .int .i64 f3] 66)).2.2
 obtain ⟨-, hX0, hB0⟩ := two_allocs W (.cells #[p0, p1, p2, p3, p4, p5, p6] 28) (.cells #[.int .i64 f0, .int .i64 f1, .int .i64 f2, .int .i64 f3] 66)
 have hgl : G < W.heap.size := h.lt
 have hxg' : W.heap.size + 1 ≠ G := by omega
 have HXG' := hid_ hxg'
 clear h hgl hxg'
 have hk0 := KeepG.below (G := G) hB0
 have hBb := hB0.mono hbW
 have hs0 : ((W.alloc (.cells #[p0, p1, p2, p3, p4, p5, p6] 28)).alloc (.cells #[.int .i64 f0, .int .i64 f1, .int .i64 f2, .int .i64 f3] 66)).heap.size = W.heap.size + 2 := by simp
 obtain ⟨A, c, vl, hG, hc, -⟩ := hw0.cells
 obtain ⟨x0, x1, x2, x3⟩ := cells4 hG
 have z0 := blk_frozen hG 0
 have ea : IntKind.i64.wrap (at_ + 1) = at_ + 1 := IntWalk.i64_in _ ⟨by omega, by omega⟩
 have ea2 : wrap64 (at_ + 1) = at_ + 1 := wrap_ _ (by omega) (by omega)
 go_enter Try.func21, Try.ntmps21
 go_upto_region 2 with (fail)
 clear x0 x1 x2 x3 z0 hG ea ea2
 have hw1 := hw0.setAt (at_ + 1)
 have hX1 := set_far (a := ⟨G, 0, none⟩) (v := .int .i64 (at_ + 1)) hX0 HXG'.out
 have hB1 := hBb.trans (hw1.2.1 base (Nat.le_refl _))
 have hk1 := hk0.trans hw1.2.2
 have hw2 := hw1.1
 have hbV := Nat.le_trans hbW hk1.1
 clear hw0 hX0 hB0 hBb hk0 hw1 hs0 hc
 generalize ((W.alloc (.cells #[p0, p1, p2, p3, p4, p5, p6] 28)).alloc (.cells #[.int .i64 f0, .int .i64 f1, .int .i64 f2, .int .i64 f3] 66)).setCell ⟨G, 0, none⟩ (.int .i64 (at_ + 1)) = V at hX1 hB1 hk1 hw2 hbV ⊢
 have hxg := HXG'.out
 clear HXG'
 generalize hXe : W.heap.size + 1 = X at hX1 hxg ⊢
 have HW := hid_ hw2
 have HX := hid_ hX1
 have HB := hid_ hB1
 have HK := hid_ hk1
 have HV := hid_ hbV
 have HXG := hid_ hxg
 clear hw2 hX1 hB1 hk1 hbV hxg hXe
 obtain ⟨y0, y1, y2, y3⟩ := cells4 HX.out
 rcases hop with rfl | rfl | rfl
 all_goals
  go_wp2_with (fail)
  refine (show Calls _ _ _ _ _ from pop_any V base G (at_ + 1) deep (s ++ [a]) a loc HW.out HV.out (by simp; omega)).mono ?_
  rintro e V1 ⟨rfl, hw1, hB1, hk1⟩
  go_wp2_with (fail)
  refine (show Calls _ _ _ _ _ from pop_any V1 base G (at_ + 1) deep s a loc hw1 (Nat.le_trans HV.out hk1.1) (by omega)).mono ?_
  rintro e V2 ⟨rfl, hw2, hB2, hk2⟩
  go_wp2_with (fail)
  refine (show Calls _ _ _ _ _ from push_any V2 base G (at_ + 1) deep s a loc hw2 (Nat.le_trans HV.out (hk1.trans hk2).1) (by omega)).mono ?_
  rintro e V3 ⟨⟨v, rfl⟩, hw3, hB3, hk3⟩
  go_wp2_with (fail)
  refine (show Calls _ _ _ _ _ from bitmap_yes a ha V3).mono ?_
  rintro e V4 ⟨rfl, hd4⟩
  have hF := Drawn0.below hd4
  have hE : DoesEnd W base G deep (at_ + 1) (s ++ [a]) loc (.returned (.bool true)) V4 := by
   refine ⟨rfl, ⟨_, hw3.below hF, ?_⟩, HB.out.trans (hB1.trans (hB2.trans (hB3.trans (hF.mono (Nat.le_trans HV.out ((hk1.trans hk2).trans hk3).1)))))⟩
   split
   ·
    exact .inr (by simp)
   ·
    exact .inl (Int.le_refl _)
  have HE := hid_ hE
  clear hE hF hd4 hw1 hw2 hw3 hB1 hB2 hB3 hk1 hk2 hk3
  go_wp2_with (fail)
  go_ret
  exact HE.out
set_option maxHeartbeats 4000000 in
set_option maxRecDepth 100000 in
theorem does_30 (W : World) (base G : Nat) (at_ deep f1 f2 f3 : Int) (s : List Int) (a : Int) (loc : List Int) (jump : Bool) (p0 p1 p2 p3 p4 p5 p6 : Value) (h : Way W base G at_ (s ++ [a]) loc deep) (hbW : base ≤ W.heap.size) (hl : s.length ≤ 10000) (h0 : 0 ≤ at_) (h1 : at_ ≤ 100000) (ha : a = 1 ∨ a = 2) :
 Calls Try.prog 21 #[.pointer (some ⟨G, 0, none⟩), .agg #[p0, p1, p2, p3, p4, p5, p6], .agg #[.int .i64 30, .int .i64 f1, .int .i64 f2, .int .i64 f3], .bool jump] W (DoesEnd W base G deep (at_ + 1) (s ++ [a]) loc) := by
 have hw0 := h.below (two_allocs W (.cells #[p0, p1, p2, p3, p4, p5, p6] 28) (.cells #[.int .i64 30, .int .i64 f1, .int .i64 f2, .int .i64 f3] 66)).2.2
 obtain ⟨-, hX0, hB0⟩ := two_allocs W (.cells #[p0, p1, p2, p3, p4, p5, p6] 28) (.cells #[.int .i64 30, .int .i64 f1, .int .i64 f2, .int .i64 f3] 66)
 have hgl : G < W.heap.size := h.lt
 have hxg' : W.heap.size + 1 ≠ G := by omega
 have HXG' := hid_ hxg'
 clear h hgl hxg'
 have hk0 := KeepG.below (G := G) hB0
 have hBb := hB0.mono hbW
 have hs0 : ((W.alloc (.cells #[p0, p1, p2, p3, p4, p5, p6] 28)).alloc (.cells #[.int .i64 30, .int .i64 f1, .int .i64 f2, .int .i64 f3] 66)).heap.size = W.heap.size + 2 := by simp
 obtain ⟨A, c, vl, hG, hc, -⟩ := hw0.cells
 obtain ⟨x0, x1, x2, x3⟩ := cells4 hG
 have z0 := blk_frozen hG 0
 have ea : IntKind.i64.wrap (at_ + 1) = at_ + 1 := IntWalk.i64_in _ ⟨by omega, by omega⟩
 have ea2 : wrap64 (at_ + 1) = at_ + 1 := wrap_ _ (by omega) (by omega)
 go_enter Try.func21, Try.ntmps21
 go_upto_region 2 with (fail)
 clear x0 x1 x2 x3 z0 hG ea ea2
 have hw1 := hw0.setAt (at_ + 1)
 have hX1 := set_far (a := ⟨G, 0, none⟩) (v := .int .i64 (at_ + 1)) hX0 HXG'.out
 have hB1 := hBb.trans (hw1.2.1 base (Nat.le_refl _))
 have hk1 := hk0.trans hw1.2.2
 have hw2 := hw1.1
 have hbV := Nat.le_trans hbW hk1.1
 clear hw0 hX0 hB0 hBb hk0 hw1 hs0 hc
 generalize ((W.alloc (.cells #[p0, p1, p2, p3, p4, p5, p6] 28)).alloc (.cells #[.int .i64 30, .int .i64 f1, .int .i64 f2, .int .i64 f3] 66)).setCell ⟨G, 0, none⟩ (.int .i64 (at_ + 1)) = V at hX1 hB1 hk1 hw2 hbV ⊢
 have hxg := HXG'.out
 clear HXG'
 generalize hXe : W.heap.size + 1 = X at hX1 hxg ⊢
 have HW := hid_ hw2
 have HX := hid_ hX1
 have HB := hid_ hB1
 have HK := hid_ hk1
 have HV := hid_ hbV
 have HXG := hid_ hxg
 clear hw2 hX1 hB1 hk1 hbV hxg hXe
 obtain ⟨y0, y1, y2, y3⟩ := cells4 HX.out
 go_wp2_with (fail)
 refine (show Calls _ _ _ _ _ from pop_any V base G (at_ + 1) deep s a loc HW.out HV.out (by omega)).mono ?_
 rintro e V1 ⟨rfl, hw1, hB1, hk1⟩
 go_wp2_with (fail)
 refine (show Calls _ _ _ _ _ from push_any V1 base G (at_ + 1) deep s a loc hw1 (Nat.le_trans HV.out hk1.1) (by omega)).mono ?_
 rintro e V2 ⟨⟨v, rfl⟩, hw2, hB2, hk2⟩
 have hX2 := (hk1.trans hk2).blk HX.out HXG.out
 clear y0 y1 y2 y3
 obtain ⟨y0, y1, y2, y3⟩ := cells4 hX2
 obtain ⟨A2, c2, vl2, hG2, -, -⟩ := hw2.cells
 obtain ⟨x0, x1, x2, x3⟩ := cells4 hG2
 have z0 := blk_frozen hG2 0
 generalize hdd : (if deep < ((s.length + 1 : Nat) : Int) then ((s.length + 1 : Nat) : Int) else deep) = dd at hw2
 have HDD := hid_ hdd
 clear hdd
 have HW2 := hid_ hw2
 have HB2 := hid_ (HB.out.trans (hB1.trans hB2))
 have HK2 := hid_ (HK.out.trans (hk1.trans hk2))
 have HV2 := hid_ (Nat.le_trans HV.out (hk1.trans hk2).1)
 clear hw1 hw2 hB1 hB2 hk1 hk2 hX2 hG2
 go_upto_region 16 with (fail)
 clear x0 x1 x2 x3 y0 y1 y2 y3 z0
 have hS := HW2.out
 obtain ⟨V3, hV3⟩ : ∃ V3, V3 = V2 := ⟨_, rfl⟩
 have hSB : Below base V2 V3 := by rw [hV3]; exact Below.refl _ _
 have hSK : KeepG G V2 V3 := by rw [hV3]; exact KeepG.below (Below.refl _ _)
 rw [← hV3] at hS ⊢
 clear hV3
 have hbV3 := Nat.le_trans HV2.out hSK.1
 go_wp2_with (fail)
 refine (show Calls _ _ _ _ _ from bitmap_yes a ha V3).mono ?_
 rintro e V4 ⟨rfl, hd4⟩
 have hF := Drawn0.below hd4
 have hE : DoesEnd W base G deep (at_ + 1) (s ++ [a]) loc (.returned (.bool true)) V4 := by
  refine ⟨rfl, ⟨dd, hS.below hF, ?_⟩, HB2.out.trans (hSB.trans (hF.mono hbV3))⟩
  rw [← HDD.out]
  split
  ·
   exact .inr (by simp)
  ·
   exact .inl (Int.le_refl _)
 have HE := hid_ hE
 clear hE hF hd4 hS hSB hSK hbV3
 go_wp2_with (fail)
 go_ret
 exact HE.out
set_option maxHeartbeats 4000000 in
set_option maxRecDepth 100000 in
theorem does_33n (W : World) (base G : Nat) (at_ deep f1 f2 f3 : Int) (s : List Int) (a : Int) (loc : List Int) (p0 p1 p2 p3 p4 p5 p6 : Value) (h : Way W base G at_ (s ++ [a]) loc deep) (hbW : base ≤ W.heap.size) (hl : s.length ≤ 10000) (h0 : 0 ≤ at_) (h1 : at_ ≤ 100000) (ha : a = 1 ∨ a = 2) :
 Calls Try.prog 21 #[.pointer (some ⟨G, 0, none⟩), .agg #[p0, p1, p2, p3, p4, p5, p6], .agg #[.int .i64 33, .int .i64 f1, .int .i64 f2, .int .i64 f3], .bool false] W (DoesEnd W base G deep (at_ + 1) (s ++ [a]) loc) := by
 have hw0 := h.below (two_allocs W (.cells #[p0, p1, p2, p3, p4, p5, p6] 28) (.cells #[.int .i64 33, .int .i64 f1, .int .i64 f2, .int .i64 f3] 66)).2.2
 obtain ⟨-, hX0, hB0⟩ := two_allocs W (.cells #[p0, p1, p2, p3, p4, p5, p6] 28) (.cells #[.int .i64 33, .int .i64 f1, .int .i64 f2, .int .i64 f3] 66)
 have hgl : G < W.heap.size := h.lt
 have hxg' : W.heap.size + 1 ≠ G := by omega
 have HXG' := hid_ hxg'
 clear h hgl hxg'
 have hk0 := KeepG.below (G := G) hB0
 have hBb := hB0.mono hbW
 have hs0 : ((W.alloc (.cells #[p0, p1, p2, p3, p4, p5, p6] 28)).alloc (.cells #[.int .i64 33, .int .i64 f1, .int .i64 f2, .int .i64 f3] 66)).heap.size = W.heap.size + 2 := by simp
 obtain ⟨A, c, vl, hG, hc, -⟩ := hw0.cells
 obtain ⟨x0, x1, x2, x3⟩ := cells4 hG
 have z0 := blk_frozen hG 0
 have ea : IntKind.i64.wrap (at_ + 1) = at_ + 1 := IntWalk.i64_in _ ⟨by omega, by omega⟩
 have ea2 : wrap64 (at_ + 1) = at_ + 1 := wrap_ _ (by omega) (by omega)
 go_enter Try.func21, Try.ntmps21
 go_upto_region 2 with (fail)
 clear x0 x1 x2 x3 z0 hG ea ea2
 have hw1 := hw0.setAt (at_ + 1)
 have hX1 := set_far (a := ⟨G, 0, none⟩) (v := .int .i64 (at_ + 1)) hX0 HXG'.out
 have hB1 := hBb.trans (hw1.2.1 base (Nat.le_refl _))
 have hk1 := hk0.trans hw1.2.2
 have hw2 := hw1.1
 have hbV := Nat.le_trans hbW hk1.1
 clear hw0 hX0 hB0 hBb hk0 hw1 hs0 hc
 generalize ((W.alloc (.cells #[p0, p1, p2, p3, p4, p5, p6] 28)).alloc (.cells #[.int .i64 33, .int .i64 f1, .int .i64 f2, .int .i64 f3] 66)).setCell ⟨G, 0, none⟩ (.int .i64 (at_ + 1)) = V at hX1 hB1 hk1 hw2 hbV ⊢
 have hxg := HXG'.out
 clear HXG'
 generalize hXe : W.heap.size + 1 = X at hX1 hxg ⊢
 have HW := hid_ hw2
 have HX := hid_ hX1
 have HB := hid_ hB1
 have HK := hid_ hk1
 have HV := hid_ hbV
 have HXG := hid_ hxg
 clear hw2 hX1 hB1 hk1 hbV hxg hXe
 obtain ⟨y0, y1, y2, y3⟩ := cells4 HX.out
 go_wp2_with (fail)
 refine (show Calls _ _ _ _ _ from pop_any V base G (at_ + 1) deep s a loc HW.out HV.out (by omega)).mono ?_
 rintro e V1 ⟨rfl, hw1, hB1, hk1⟩
 go_wp2_with (fail)
 refine (show Calls _ _ _ _ _ from push_any V1 base G (at_ + 1) deep s a loc hw1 (Nat.le_trans HV.out hk1.1) (by omega)).mono ?_
 rintro e V2 ⟨⟨v, rfl⟩, hw2, hB2, hk2⟩
 have hX2 := (hk1.trans hk2).blk HX.out HXG.out
 clear y0 y1 y2 y3
 obtain ⟨y0, y1, y2, y3⟩ := cells4 hX2
 obtain ⟨A2, c2, vl2, hG2, -, -⟩ := hw2.cells
 obtain ⟨x0, x1, x2, x3⟩ := cells4 hG2
 have z0 := blk_frozen hG2 0
 generalize hdd : (if deep < ((s.length + 1 : Nat) : Int) then ((s.length + 1 : Nat) : Int) else deep) = dd at hw2
 have HDD := hid_ hdd
 clear hdd
 have HW2 := hid_ hw2
 have HB2 := hid_ (HB.out.trans (hB1.trans hB2))
 have HK2 := hid_ (HK.out.trans (hk1.trans hk2))
 have HV2 := hid_ (Nat.le_trans HV.out (hk1.trans hk2).1)
 clear hw1 hw2 hB1 hB2 hk1 hk2 hX2 hG2
 go_upto_region 16 with (fail)
 clear x0 x1 x2 x3 y0 y1 y2 y3 z0
 have hS := HW2.out
 obtain ⟨V3, hV3⟩ : ∃ V3, V3 = V2 := ⟨_, rfl⟩
 have hSB : Below base V2 V3 := by rw [hV3]; exact Below.refl _ _
 have hSK : KeepG G V2 V3 := by rw [hV3]; exact KeepG.below (Below.refl _ _)
 rw [← hV3] at hS ⊢
 clear hV3
 have hbV3 := Nat.le_trans HV2.out hSK.1
 go_wp2_with (fail)
 refine (show Calls _ _ _ _ _ from bitmap_yes a ha V3).mono ?_
 rintro e V4 ⟨rfl, hd4⟩
 have hF := Drawn0.below hd4
 have hE : DoesEnd W base G deep (at_ + 1) (s ++ [a]) loc (.returned (.bool true)) V4 := by
  refine ⟨rfl, ⟨dd, hS.below hF, ?_⟩, HB2.out.trans (hSB.trans (hF.mono hbV3))⟩
  rw [← HDD.out]
  split
  ·
   exact .inr (by simp)
  ·
   exact .inl (Int.le_refl _)
 have HE := hid_ hE
 clear hE hF hd4 hS hSB hSK hbV3
 go_wp2_with (fail)
 go_ret
 exact HE.out
set_option maxHeartbeats 4000000 in
set_option maxRecDepth 100000 in
theorem does_33j (W : World) (base G : Nat) (at_ deep f1 f2 f3 : Int) (s : List Int) (a : Int) (loc : List Int) (p0 p1 p2 p3 p4 p5 p6 : Value) (h : Way W base G at_ (s ++ [a]) loc deep) (hbW : base ≤ W.heap.size) (hl : s.length ≤ 10000) (h0 : 0 ≤ at_) (h1 : at_ ≤ 100000) (ha : a = 1 ∨ a = 2) :
 Calls Try.prog 21 #[.pointer (some ⟨G, 0, none⟩), .agg #[p0, p1, p2, p3, p4, p5, p6], .agg #[.int .i64 33, .int .i64 f1, .int .i64 f2, .int .i64 f3], .bool true] W (DoesEnd W base G deep (f1) (s ++ [a]) loc) := by
 have hw0 := h.below (two_allocs W (.cells #[p0, p1, p2, p3, p4, p5, p6] 28) (.cells #[.int .i64 33, .int .i64 f1, .int .i64 f2, .int .i64 f3] 66)).2.2
 obtain ⟨-, hX0, hB0⟩ := two_allocs W (.cells #[p0, p1, p2, p3, p4, p5, p6] 28) (.cells #[.int .i64 33, .int .i64 f1, .int .i64 f2, .int .i64 f3] 66)
 have hgl : G < W.heap.size := h.lt
 have hxg' : W.heap.size + 1 ≠ G := by omega
 have HXG' := hid_ hxg'
 clear h hgl hxg'
 have hk0 := KeepG.below (G := G) hB0
 have hBb := hB0.mono hbW
 have hs0 : ((W.alloc (.cells #[p0, p1, p2, p3, p4, p5, p6] 28)).alloc (.cells #[.int .i64 33, .int .i64 f1, .int .i64 f2, .int .i64 f3] 66)).heap.size = W.heap.size + 2 := by simp
 obtain ⟨A, c, vl, hG, hc, -⟩ := hw0.cells
 obtain ⟨x0, x1, x2, x3⟩ := cells4 hG
 have z0 := blk_frozen hG 0
 have ea : IntKind.i64.wrap (at_ + 1) = at_ + 1 := IntWalk.i64_in _ ⟨by omega, by omega⟩
 have ea2 : wrap64 (at_ + 1) = at_ + 1 := wrap_ _ (by omega) (by omega)
 go_enter Try.func21, Try.ntmps21
 go_upto_region 2 with (fail)
 clear x0 x1 x2 x3 z0 hG ea ea2
 have hw1 := hw0.setAt (at_ + 1)
 have hX1 := set_far (a := ⟨G, 0, none⟩) (v := .int .i64 (at_ + 1)) hX0 HXG'.out
 have hB1 := hBb.trans (hw1.2.1 base (Nat.le_refl _))
 have hk1 := hk0.trans hw1.2.2
 have hw2 := hw1.1
 have hbV := Nat.le_trans hbW hk1.1
 clear hw0 hX0 hB0 hBb hk0 hw1 hs0 hc
 generalize ((W.alloc (.cells #[p0, p1, p2, p3, p4, p5, p6] 28)).alloc (.cells #[.int .i64 33, .int .i64 f1, .int .i64 f2, .int .i64 f3] 66)).setCell ⟨G, 0, none⟩ (.int .i64 (at_ + 1)) = V at hX1 hB1 hk1 hw2 hbV ⊢
 have hxg := HXG'.out
 clear HXG'
 generalize hXe : W.heap.size + 1 = X at hX1 hxg ⊢
 have HW := hid_ hw2
 have HX := hid_ hX1
 have HB := hid_ hB1
 have HK := hid_ hk1
 have HV := hid_ hbV
 have HXG := hid_ hxg
 clear hw2 hX1 hB1 hk1 hbV hxg hXe
 obtain ⟨y0, y1, y2, y3⟩ := cells4 HX.out
 go_wp2_with (fail)
 refine (show Calls _ _ _ _ _ from pop_any V base G (at_ + 1) deep s a loc HW.out HV.out (by omega)).mono ?_
 rintro e V1 ⟨rfl, hw1, hB1, hk1⟩
 go_wp2_with (fail)
 refine (show Calls _ _ _ _ _ from push_any V1 base G (at_ + 1) deep s a loc hw1 (Nat.le_trans HV.out hk1.1) (by omega)).mono ?_
 rintro e V2 ⟨⟨v, rfl⟩, hw2, hB2, hk2⟩
 have hX2 := (hk1.trans hk2).blk HX.out HXG.out
 clear y0 y1 y2 y3
 obtain ⟨y0, y1, y2, y3⟩ := cells4 hX2
 obtain ⟨A2, c2, vl2, hG2, -, -⟩ := hw2.cells
 obtain ⟨x0, x1, x2, x3⟩ := cells4 hG2
 have z0 := blk_frozen hG2 0
 generalize hdd : (if deep < ((s.length + 1 : Nat) : Int) then ((s.length + 1 : Nat) : Int) else deep) = dd at hw2
 have HDD := hid_ hdd
 clear hdd
 have HW2 := hid_ hw2
 have HB2 := hid_ (HB.out.trans (hB1.trans hB2))
 have HK2 := hid_ (HK.out.trans (hk1.trans hk2))
 have HV2 := hid_ (Nat.le_trans HV.out (hk1.trans hk2).1)
 clear hw1 hw2 hB1 hB2 hk1 hk2 hX2 hG2
 go_upto_region 16 with (fail)
 clear x0 x1 x2 x3 y0 y1 y2 y3 z0
 have h3 := HW2.out.setAt f1
 have hS := h3.1
 have hSB := h3.2.1 base (Nat.le_refl _)
 have hSK := h3.2.2
 clear h3
 generalize V2.setCell ⟨G, 0, none⟩ (.int .i64 f1) = V3 at hS hSB hSK ⊢
 have hbV3 := Nat.le_trans HV2.out hSK.1
 go_wp2_with (fail)
 refine (show Calls _ _ _ _ _ from bitmap_yes a ha V3).mono ?_
 rintro e V4 ⟨rfl, hd4⟩
 have hF := Drawn0.below hd4
 have hE : DoesEnd W base G deep (f1) (s ++ [a]) loc (.returned (.bool true)) V4 := by
  refine ⟨rfl, ⟨dd, hS.below hF, ?_⟩, HB2.out.trans (hSB.trans (hF.mono hbV3))⟩
  rw [← HDD.out]
  split
  ·
   exact .inr (by simp)
  ·
   exact .inl (Int.le_refl _)
 have HE := hid_ hE
 clear hE hF hd4 hS hSB hSK hbV3
 go_wp2_with (fail)
 go_ret
 exact HE.out
set_option maxHeartbeats 4000000 in
set_option maxRecDepth 100000 in
theorem does_34n (W : World) (base G : Nat) (at_ deep f1 f2 f3 : Int) (s : List Int) (a : Int) (loc : List Int) (p0 p1 p2 p3 p4 p5 p6 : Value) (h : Way W base G at_ (s ++ [a]) loc deep) (hbW : base ≤ W.heap.size) (hl : s.length ≤ 10000) (h0 : 0 ≤ at_) (h1 : at_ ≤ 100000) (ha : a = 1 ∨ a = 2) :
 Calls Try.prog 21 #[.pointer (some ⟨G, 0, none⟩), .agg #[p0, p1, p2, p3, p4, p5, p6], .agg #[.int .i64 34, .int .i64 f1, .int .i64 f2, .int .i64 f3], .bool false] W (DoesEnd W base G deep (at_ + 1) (s ++ [a]) loc) := by
 have hw0 := h.below (two_allocs W (.cells #[p0, p1, p2, p3, p4, p5, p6] 28) (.cells #[.int .i64 34, .int .i64 f1, .int .i64 f2, .int .i64 f3] 66)).2.2
 obtain ⟨-, hX0, hB0⟩ := two_allocs W (.cells #[p0, p1, p2, p3, p4, p5, p6] 28) (.cells #[.int .i64 34, .int .i64 f1, .int .i64 f2, .int .i64 f3] 66)
 have hgl : G < W.heap.size := h.lt
 have hxg' : W.heap.size + 1 ≠ G := by omega
 have HXG' := hid_ hxg'
 clear h hgl hxg'
 have hk0 := KeepG.below (G := G) hB0
 have hBb := hB0.mono hbW
 have hs0 : ((W.alloc (.cells #[p0, p1, p2, p3, p4, p5, p6] 28)).alloc (.cells #[.int .i64 34, .int .i64 f1, .int .i64 f2, .int .i64 f3] 66)).heap.size = W.heap.size + 2 := by simp
 obtain ⟨A, c, vl, hG, hc, -⟩ := hw0.cells
 obtain ⟨x0, x1, x2, x3⟩ := cells4 hG
 have z0 := blk_frozen hG 0
 have ea : IntKind.i64.wrap (at_ + 1) = at_ + 1 := IntWalk.i64_in _ ⟨by omega, by omega⟩
 have ea2 : wrap64 (at_ + 1) = at_ + 1 := wrap_ _ (by omega) (by omega)
 go_enter Try.func21, Try.ntmps21
 go_upto_region 2 with (fail)
 clear x0 x1 x2 x3 z0 hG ea ea2
 have hw1 := hw0.setAt (at_ + 1)
 have hX1 := set_far (a := ⟨G, 0, none⟩) (v := .int .i64 (at_ + 1)) hX0 HXG'.out
 have hB1 := hBb.trans (hw1.2.1 base (Nat.le_refl _))
 have hk1 := hk0.trans hw1.2.2
 have hw2 := hw1.1
 have hbV := Nat.le_trans hbW hk1.1
 clear hw0 hX0 hB0 hBb hk0 hw1 hs0 hc
 generalize ((W.alloc (.cells #[p0, p1, p2, p3, p4, p5, p6] 28)).alloc (.cells #[.int .i64 34, .int .i64 f1, .int .i64 f2, .int .i64 f3] 66)).setCell ⟨G, 0, none⟩ (.int .i64 (at_ + 1)) = V at hX1 hB1 hk1 hw2 hbV ⊢
 have hxg := HXG'.out
 clear HXG'
 generalize hXe : W.heap.size + 1 = X at hX1 hxg ⊢
 have HW := hid_ hw2
 have HX := hid_ hX1
 have HB := hid_ hB1
 have HK := hid_ hk1
 have HV := hid_ hbV
 have HXG := hid_ hxg
 clear hw2 hX1 hB1 hk1 hbV hxg hXe
 obtain ⟨y0, y1, y2, y3⟩ := cells4 HX.out
 go_wp2_with (fail)
 refine (show Calls _ _ _ _ _ from pop_any V base G (at_ + 1) deep s a loc HW.out HV.out (by omega)).mono ?_
 rintro e V1 ⟨rfl, hw1, hB1, hk1⟩
 go_wp2_with (fail)
 refine (show Calls _ _ _ _ _ from push_any V1 base G (at_ + 1) deep s a loc hw1 (Nat.le_trans HV.out hk1.1) (by omega)).mono ?_
 rintro e V2 ⟨⟨v, rfl⟩, hw2, hB2, hk2⟩
 have hX2 := (hk1.trans hk2).blk HX.out HXG.out
 clear y0 y1 y2 y3
 obtain ⟨y0, y1, y2, y3⟩ := cells4 hX2
 obtain ⟨A2, c2, vl2, hG2, -, -⟩ := hw2.cells
 obtain ⟨x0, x1, x2, x3⟩ := cells4 hG2
 have z0 := blk_frozen hG2 0
 generalize hdd : (if deep < ((s.length + 1 : Nat) : Int) then ((s.length + 1 : Nat) : Int) else deep) = dd at hw2
 have HDD := hid_ hdd
 clear hdd
 have HW2 := hid_ hw2
 have HB2 := hid_ (HB.out.trans (hB1.trans hB2))
 have HK2 := hid_ (HK.out.trans (hk1.trans hk2))
 have HV2 := hid_ (Nat.le_trans HV.out (hk1.trans hk2).1)
 clear hw1 hw2 hB1 hB2 hk1 hk2 hX2 hG2
 go_upto_region 16 with (fail)
 clear x0 x1 x2 x3 y0 y1 y2 y3 z0
 have hS := HW2.out
 obtain ⟨V3, hV3⟩ : ∃ V3, V3 = V2 := ⟨_, rfl⟩
 have hSB : Below base V2 V3 := by rw [hV3]; exact Below.refl _ _
 have hSK : KeepG G V2 V3 := by rw [hV3]; exact KeepG.below (Below.refl _ _)
 rw [← hV3] at hS ⊢
 clear hV3
 have hbV3 := Nat.le_trans HV2.out hSK.1
 go_wp2_with (fail)
 refine (show Calls _ _ _ _ _ from bitmap_yes a ha V3).mono ?_
 rintro e V4 ⟨rfl, hd4⟩
 have hF := Drawn0.below hd4
 have hE : DoesEnd W base G deep (at_ + 1) (s ++ [a]) loc (.returned (.bool true)) V4 := by
  refine ⟨rfl, ⟨dd, hS.below hF, ?_⟩, HB2.out.trans (hSB.trans (hF.mono hbV3))⟩
  rw [← HDD.out]
  split
  ·
   exact .inr (by simp)
  ·
   exact .inl (Int.le_refl _)
 have HE := hid_ hE
 clear hE hF hd4 hS hSB hSK hbV3
 go_wp2_with (fail)
 go_ret
 exact HE.out
set_option maxHeartbeats 4000000 in
set_option maxRecDepth 100000 in
theorem does_34j (W : World) (base G : Nat) (at_ deep f1 f2 f3 : Int) (s : List Int) (a : Int) (loc : List Int) (p0 p1 p2 p3 p4 p5 p6 : Value) (h : Way W base G at_ (s ++ [a]) loc deep) (hbW : base ≤ W.heap.size) (hl : s.length ≤ 10000) (h0 : 0 ≤ at_) (h1 : at_ ≤ 100000) (ha : a = 1 ∨ a = 2) :
 Calls Try.prog 21 #[.pointer (some ⟨G, 0, none⟩), .agg #[p0, p1, p2, p3, p4, p5, p6], .agg #[.int .i64 34, .int .i64 f1, .int .i64 f2, .int .i64 f3], .bool true] W (DoesEnd W base G deep (f1) (s ++ [a]) loc) := by
 have hw0 := h.below (two_allocs W (.cells #[p0, p1, p2, p3, p4, p5, p6] 28) (.cells #[.int .i64 34, .int .i64 f1, .int .i64 f2, .int .i64 f3] 66)).2.2
 obtain ⟨-, hX0, hB0⟩ := two_allocs W (.cells #[p0, p1, p2, p3, p4, p5, p6] 28) (.cells #[.int .i64 34, .int .i64 f1, .int .i64 f2, .int .i64 f3] 66)
 have hgl : G < W.heap.size := h.lt
 have hxg' : W.heap.size + 1 ≠ G := by omega
 have HXG' := hid_ hxg'
 clear h hgl hxg'
 have hk0 := KeepG.below (G := G) hB0
 have hBb := hB0.mono hbW
 have hs0 : ((W.alloc (.cells #[p0, p1, p2, p3, p4, p5, p6] 28)).alloc (.cells #[.int .i64 34, .int .i64 f1, .int .i64 f2, .int .i64 f3] 66)).heap.size = W.heap.size + 2 := by simp
 obtain ⟨A, c, vl, hG, hc, -⟩ := hw0.cells
 obtain ⟨x0, x1, x2, x3⟩ := cells4 hG
 have z0 := blk_frozen hG 0
 have ea : IntKind.i64.wrap (at_ + 1) = at_ + 1 := IntWalk.i64_in _ ⟨by omega, by omega⟩
 have ea2 : wrap64 (at_ + 1) = at_ + 1 := wrap_ _ (by omega) (by omega)
 go_enter Try.func21, Try.ntmps21
 go_upto_region 2 with (fail)
 clear x0 x1 x2 x3 z0 hG ea ea2
 have hw1 := hw0.setAt (at_ + 1)
 have hX1 := set_far (a := ⟨G, 0, none⟩) (v := .int .i64 (at_ + 1)) hX0 HXG'.out
 have hB1 := hBb.trans (hw1.2.1 base (Nat.le_refl _))
 have hk1 := hk0.trans hw1.2.2
 have hw2 := hw1.1
 have hbV := Nat.le_trans hbW hk1.1
 clear hw0 hX0 hB0 hBb hk0 hw1 hs0 hc
 generalize ((W.alloc (.cells #[p0, p1, p2, p3, p4, p5, p6] 28)).alloc (.cells #[.int .i64 34, .int .i64 f1, .int .i64 f2, .int .i64 f3] 66)).setCell ⟨G, 0, none⟩ (.int .i64 (at_ + 1)) = V at hX1 hB1 hk1 hw2 hbV ⊢
 have hxg := HXG'.out
 clear HXG'
 generalize hXe : W.heap.size + 1 = X at hX1 hxg ⊢
 have HW := hid_ hw2
 have HX := hid_ hX1
 have HB := hid_ hB1
 have HK := hid_ hk1
 have HV := hid_ hbV
 have HXG := hid_ hxg
 clear hw2 hX1 hB1 hk1 hbV hxg hXe
 obtain ⟨y0, y1, y2, y3⟩ := cells4 HX.out
 go_wp2_with (fail)
 refine (show Calls _ _ _ _ _ from pop_any V base G (at_ + 1) deep s a loc HW.out HV.out (by omega)).mono ?_
 rintro e V1 ⟨rfl, hw1, hB1, hk1⟩
 go_wp2_with (fail)
 refine (show Calls _ _ _ _ _ from push_any V1 base G (at_ + 1) deep s a loc hw1 (Nat.le_trans HV.out hk1.1) (by omega)).mono ?_
 rintro e V2 ⟨⟨v, rfl⟩, hw2, hB2, hk2⟩
 have hX2 := (hk1.trans hk2).blk HX.out HXG.out
 clear y0 y1 y2 y3
 obtain ⟨y0, y1, y2, y3⟩ := cells4 hX2
 obtain ⟨A2, c2, vl2, hG2, -, -⟩ := hw2.cells
 obtain ⟨x0, x1, x2, x3⟩ := cells4 hG2
 have z0 := blk_frozen hG2 0
 generalize hdd : (if deep < ((s.length + 1 : Nat) : Int) then ((s.length + 1 : Nat) : Int) else deep) = dd at hw2
 have HDD := hid_ hdd
 clear hdd
 have HW2 := hid_ hw2
 have HB2 := hid_ (HB.out.trans (hB1.trans hB2))
 have HK2 := hid_ (HK.out.trans (hk1.trans hk2))
 have HV2 := hid_ (Nat.le_trans HV.out (hk1.trans hk2).1)
 clear hw1 hw2 hB1 hB2 hk1 hk2 hX2 hG2
 go_upto_region 16 with (fail)
 clear x0 x1 x2 x3 y0 y1 y2 y3 z0
 have h3 := HW2.out.setAt f1
 have hS := h3.1
 have hSB := h3.2.1 base (Nat.le_refl _)
 have hSK := h3.2.2
 clear h3
 generalize V2.setCell ⟨G, 0, none⟩ (.int .i64 f1) = V3 at hS hSB hSK ⊢
 have hbV3 := Nat.le_trans HV2.out hSK.1
 go_wp2_with (fail)
 refine (show Calls _ _ _ _ _ from bitmap_yes a ha V3).mono ?_
 rintro e V4 ⟨rfl, hd4⟩
 have hF := Drawn0.below hd4
 have hE : DoesEnd W base G deep (f1) (s ++ [a]) loc (.returned (.bool true)) V4 := by
  refine ⟨rfl, ⟨dd, hS.below hF, ?_⟩, HB2.out.trans (hSB.trans (hF.mono hbV3))⟩
  rw [← HDD.out]
  split
  ·
   exact .inr (by simp)
  ·
   exact .inl (Int.le_refl _)
 have HE := hid_ hE
 clear hE hF hd4 hS hSB hSK hbV3
 go_wp2_with (fail)
 go_ret
 exact HE.out
set_option maxHeartbeats 4000000 in
set_option maxRecDepth 100000 in
theorem does_pop (W : World) (base G : Nat) (at_ deep f1 f2 f3 : Int) (s : List Int) (a : Int) (loc : List Int) (jump : Bool) (p0 p1 p2 p3 p4 p5 p6 : Value) (h : Way W base G at_ (s ++ [a]) loc deep) (hbW : base ≤ W.heap.size) (hl : s.length ≤ 10000) (h0 : 0 ≤ at_) (h1 : at_ ≤ 100000) (ha : a ≠ 0) :
 Calls Try.prog 21 #[.pointer (some ⟨G, 0, none⟩), .agg #[p0, p1, p2, p3, p4, p5, p6], .agg #[.int .i64 35, .int .i64 f1, .int .i64 f2, .int .i64 f3], .bool jump] W (DoesEnd W base G deep (at_ + 1) s loc) := by
 have hw0 := h.below (two_allocs W (.cells #[p0, p1, p2, p3, p4, p5, p6] 28) (.cells #[.int .i64 35, .int .i64 f1, .int .i64 f2, .int .i64 f3] 66)).2.2
 obtain ⟨-, hX0, hB0⟩ := two_allocs W (.cells #[p0, p1, p2, p3, p4, p5, p6] 28) (.cells #[.int .i64 35, .int .i64 f1, .int .i64 f2, .int .i64 f3] 66)
 have hgl : G < W.heap.size := h.lt
 have hxg' : W.heap.size + 1 ≠ G := by omega
 have HXG' := hid_ hxg'
 clear h hgl hxg'
 have hk0 := KeepG.below (G := G) hB0
 have hBb := hB0.mono hbW
 have hs0 : ((W.alloc (.cells #[p0, p1, p2, p3, p4, p5, p6] 28)).alloc (.cells #[.int .i64 35, .int .i64 f1, .int .i64 f2, .int .i64 f3] 66)).heap.size = W.heap.size + 2 := by simp
 obtain ⟨A, c, vl, hG, hc, -⟩ := hw0.cells
 obtain ⟨x0, x1, x2, x3⟩ := cells4 hG
 have z0 := blk_frozen hG 0
 have ea : IntKind.i64.wrap (at_ + 1) = at_ + 1 := IntWalk.i64_in _ ⟨by omega, by omega⟩
 have ea2 : wrap64 (at_ + 1) = at_ + 1 := wrap_ _ (by omega) (by omega)
 go_enter Try.func21, Try.ntmps21
 go_upto_region 2 with (fail)
 clear x0 x1 x2 x3 z0 hG ea ea2
 have hw1 := hw0.setAt (at_ + 1)
 have hX1 := set_far (a := ⟨G, 0, none⟩) (v := .int .i64 (at_ + 1)) hX0 HXG'.out
 have hB1 := hBb.trans (hw1.2.1 base (Nat.le_refl _))
 have hk1 := hk0.trans hw1.2.2
 have hw2 := hw1.1
 have hbV := Nat.le_trans hbW hk1.1
 clear hw0 hX0 hB0 hBb hk0 hw1 hs0 hc
 generalize ((W.alloc (.cells #[p0, p1, p2, p3, p4, p5, p6] 28)).alloc (.cells #[.int .i64 35, .int .i64 f1, .int .i64 f2, .int .i64 f3] 66)).setCell ⟨G, 0, none⟩ (.int .i64 (at_ + 1)) = V at hX1 hB1 hk1 hw2 hbV ⊢
 have hxg := HXG'.out
 clear HXG'
 generalize hXe : W.heap.size + 1 = X at hX1 hxg ⊢
 have HW := hid_ hw2
 have HX := hid_ hX1
 have HB := hid_ hB1
 have HK := hid_ hk1
 have HV := hid_ hbV
 have HXG := hid_ hxg
 clear hw2 hX1 hB1 hk1 hbV hxg hXe
 obtain ⟨y0, y1, y2, y3⟩ := cells4 HX.out
 go_wp2_with (fail)
 refine (show Calls _ _ _ _ _ from pop_any V base G (at_ + 1) deep s a loc HW.out HV.out (by omega)).mono ?_
 rintro e V1 ⟨rfl, hw1, hB1, hk1⟩
 have hE : DoesEnd W base G deep (at_ + 1) s loc (.returned (.bool true)) V1 := ⟨rfl, ⟨deep, hw1, .inl (Int.le_refl _)⟩, HB.out.trans hB1⟩
 have HE := hid_ hE
 clear hE hw1 hB1 hk1
 have d1 : (a == 0) = false := by rw [beq_eq_false_iff_ne]; exact ha
 have d2 : (a != 0) = true := by rw [bne, d1]; rfl
 clear ha
 go_wp2_with (fail)
 go_ret
 exact HE.out
set_option maxHeartbeats 4000000 in
set_option maxRecDepth 100000 in
theorem does_load (W : World) (base G : Nat) (at_ deep f1 f2 f3 : Int) (s loc : List Int) (jump : Bool) (p0 p1 p2 p3 p4 p5 p6 : Value) (h : Way W base G at_ s loc deep) (hbW : base ≤ W.heap.size) (hl : s.length ≤ 10000) (h0 : 0 ≤ at_) (h1 : at_ ≤ 100000) (g0 : 0 ≤ f1) (g1 : f1 < loc.length) (hll : loc.length ≤ 10000) (lv : Int) (hlv : loc.getD f1.toNat 0 = lv) (hn : lv ≠ 0) :
 Calls Try.prog 21 #[.pointer (some ⟨G, 0, none⟩), .agg #[p0, p1, p2, p3, p4, p5, p6], .agg #[.int .i64 32, .int .i64 f1, .int .i64 f2, .int .i64 f3], .bool jump] W (DoesEnd W base G deep (at_ + 1) (s ++ [lv]) loc) := by
 have HLV := hid_ hlv
 clear hlv
 have hw0 := h.below (two_allocs W (.cells #[p0, p1, p2, p3, p4, p5, p6] 28) (.cells #[.int .i64 32, .int .i64 f1, .int .i64 f2, .int .i64 f3] 66)).2.2
 obtain ⟨-, hX0, hB0⟩ := two_allocs W (.cells #[p0, p1, p2, p3, p4, p5, p6] 28) (.cells #[.int .i64 32, .int .i64 f1, .int .i64 f2, .int .i64 f3] 66)
 have hgl : G < W.heap.size := h.lt
 have hxg' : W.heap.size + 1 ≠ G := by omega
 have HXG' := hid_ hxg'
 clear h hgl hxg'
 have hk0 := KeepG.below (G := G) hB0
 have hBb := hB0.mono hbW
 have hs0 : ((W.alloc (.cells #[p0, p1, p2, p3, p4, p5, p6] 28)).alloc (.cells #[.int .i64 32, .int .i64 f1, .int .i64 f2, .int .i64 f3] 66)).heap.size = W.heap.size + 2 := by simp
 obtain ⟨A, c, vl, hG, hc, -⟩ := hw0.cells
 obtain ⟨x0, x1, x2, x3⟩ := cells4 hG
 have z0 := blk_frozen hG 0
 have ea : IntKind.i64.wrap (at_ + 1) = at_ + 1 := IntWalk.i64_in _ ⟨by omega, by omega⟩
 have ea2 : wrap64 (at_ + 1) = at_ + 1 := wrap_ _ (by omega) (by omega)
 go_enter Try.func21, Try.ntmps21
 go_upto_region 2 with (fail)
 clear x0 x1 x2 x3 z0 hG ea ea2
 have hw1 := hw0.setAt (at_ + 1)
 have hX1 := set_far (a := ⟨G, 0, none⟩) (v := .int .i64 (at_ + 1)) hX0 HXG'.out
 have hB1 := hBb.trans (hw1.2.1 base (Nat.le_refl _))
 have hk1 := hk0.trans hw1.2.2
 have hw2 := hw1.1
 have hbV := Nat.le_trans hbW hk1.1
 clear hw0 hX0 hB0 hBb hk0 hw1 hs0 hc
 generalize ((W.alloc (.cells #[p0, p1, p2, p3, p4, p5, p6] 28)).alloc (.cells #[.int .i64 32, .int .i64 f1, .int .i64 f2, .int .i64 f3] 66)).setCell ⟨G, 0, none⟩ (.int .i64 (at_ + 1)) = V at hX1 hB1 hk1 hw2 hbV ⊢
 have hxg := HXG'.out
 clear HXG'
 generalize hXe : W.heap.size + 1 = X at hX1 hxg ⊢
 have HW := hid_ hw2
 have HX := hid_ hX1
 have HB := hid_ hB1
 have HK := hid_ hk1
 have HV := hid_ hbV
 have HXG := hid_ hxg
 clear hw2 hX1 hB1 hk1 hbV hxg hXe
 obtain ⟨y0, y1, y2, y3⟩ := cells4 HX.out
 obtain ⟨vs, vl, hG, -, -, hlc, -⟩ := HW.out
 obtain ⟨Al, cl, rfl, hcl, hCl⟩ := Kd.R_reads hlc
 obtain ⟨al, rfl, cal⟩ := Kd.at_int hCl f1 g0 g1
 have hv : rd loc f1 = lv := HLV.out
 rw [hv] at cal
 have d1 : (lv == 0) = false := by rw [beq_eq_false_iff_ne]; exact hn
 obtain ⟨x0, x1, x2, x3⟩ := cells4 hG
 have HG := hid_ hG
 have HCAL := hid_ cal
 have n1 : ¬ f1 < 0 := by omega
 have n2 : ¬ (loc.length : Int) ≤ f1 := by omega
 clear hG hlc hCl hv hn hcl
 go_upto_region 24 with (fail)
 go_region_held3 (fun w' => w'.cell? ⟨X, 1, none⟩ = some (.int .i64 f1) ∧ w'.cell? ⟨G, 2, none⟩ = some (.slice (some al) loc.length cl) ∧ w'.cell? (al.add f1.toNat) = some (.int .i64 lv)) (go_keep) (fail)
 clear x0 x1 x2 x3 y0 y1 y2 y3
 go_upto_region 26 with (fail)
 have hD := (Below.refl V.heap.size V).drew
 have HG2 := hid_ (blk_next HG.out hD)
 have HX2 := hid_ (blk_next HX.out hD)
 have HC2 := hid_ (pw_cell_below hD HCAL.out)
 have HW2 := hid_ (HW.out.below hD)
 have HB2 := hid_ HB.out.drew
 have HV2 := hid_ (show base ≤ V.drew.heap.size from HV.out)
 clear HG HX HCAL HW HB HV HK cal hD
 generalize V.drew = V2 at HG2 HX2 HC2 HW2 HB2 HV2 ⊢
 refine start_ (n := 10) (S := fun w' => Below V2.heap.size V2 w') (ds := [9]) (bm 10 0) (by kernel_rfl) rfl (by kernel_rfl) (Below.refl _ _).drew (fun hHeld => ?_)
 refine with_tabW does.tab26 does.bits26 (fun HT_ HW_ => ?_)
 refine pure_ (i := 0) (N := some 118) (v := ?_) (a' := ?_) (bm 10 1) rfl rfl (any_of HT_.out (by kernel_rfl)) (fun _ _ _ h => h) (Or.inl ⟨by rfl, ?_⟩) ?_ ?_
 rotate_left
 ·
  intro w'
  go_simp
  with_reducible rfl
 rotate_left
 ·
  simp only [Act.put, List.setIfInBounds_toArray, List.set_cons_zero, List.set_cons_succ]
  rfl
 refine pure_ (i := 1) (N := some 119) (v := ?_) (a' := ?_) (bm 10 3) rfl rfl (any_of HT_.out (by kernel_rfl)) (fun _ _ _ h => h) (Or.inl ⟨by rfl, ?_⟩) ?_ ?_
 rotate_left
 ·
  intro w'
  go_simp
  with_reducible rfl
 rotate_left
 ·
  simp only [Act.put, List.setIfInBounds_toArray, List.set_cons_zero, List.set_cons_succ]
  rfl
 refine pure_ (i := 2) (N := some 120) (v := ?_) (a' := ?_) (bm 10 7) rfl rfl (any_of HT_.out (by kernel_rfl)) (fun _ _ _ h => h) (Or.inl ⟨by rfl, ?_⟩) ?_ ?_
 rotate_left
 ·
  intro w'
  go_simp
  with_reducible rfl
 rotate_left
 ·
  simp only [Act.put, List.setIfInBounds_toArray, List.set_cons_zero, List.set_cons_succ]
  rfl
 refine pure_ (i := 3) (N := some 121) (v := ?_) (a' := ?_) (bm 10 15) rfl rfl (any_of HT_.out (by kernel_rfl)) (fun _ _ _ h => h) (Or.inl ⟨by rfl, ?_⟩) ?_ ?_
 rotate_left
 ·
  intro w'
  go_simp
  with_reducible rfl
 rotate_left
 ·
  simp only [Act.put, List.setIfInBounds_toArray, List.set_cons_zero, List.set_cons_succ]
  rfl
 refine pure_ (i := 5) (N := some 123) (v := ?_) (a' := ?_) (bm 10 47) rfl rfl (any_of HT_.out (by kernel_rfl)) (fun _ _ _ h => h) (Or.inl ⟨by rfl, ?_⟩) ?_ ?_
 rotate_left
 ·
  intro w'
  go_simp
  with_reducible rfl
 rotate_left
 ·
  simp only [Act.put, List.setIfInBounds_toArray, List.set_cons_zero, List.set_cons_succ]
  rfl
 refine take_ (i := 4) (N := some 122) (v := ?_) (a' := ?_) (bm 10 63) rfl rfl (take_ofW HT_.out HW_.out (by kernel_rfl)) (fun _ _ _ h => h) (Or.inl ⟨by rfl, ?_⟩) hHeld ?_ ?_
 rotate_left
 ·
  intro w' hS'
  obtain ⟨x0, x1, x2, x3⟩ := cells4 (blk_next HG2.out hS')
  go_simp
  with_reducible rfl
 rotate_left
 ·
  simp only [Act.put, List.setIfInBounds_toArray, List.set_cons_zero, List.set_cons_succ]
  rfl
 refine take_ (i := 6) (N := some 124) (v := ?_) (a' := ?_) (bm 10 127) rfl rfl (take_ofW HT_.out HW_.out (by kernel_rfl)) (fun _ _ _ h => h) (Or.inl ⟨by rfl, ?_⟩) hHeld ?_ ?_
 rotate_left
 ·
  intro w' hS'
  obtain ⟨z0, z1, z2, z3⟩ := cells4 (blk_next HX2.out hS')
  go_simp
  with_reducible rfl
 rotate_left
 ·
  simp only [Act.put, List.setIfInBounds_toArray, List.set_cons_zero, List.set_cons_succ]
  rfl
 refine pure_ (i := 7) (N := some 125) (v := ?_) (a' := ?_) (bm 10 255) rfl rfl (any_of HT_.out (by kernel_rfl)) (fun _ _ _ h => h) (Or.inl ⟨by rfl, ?_⟩) ?_ ?_
 rotate_left
 ·
  intro w'
  go_simp
  with_reducible rfl
 rotate_left
 ·
  simp only [Act.put, List.setIfInBounds_toArray, List.set_cons_zero, List.set_cons_succ]
  rfl
 refine take_ (i := 8) (N := some 126) (v := ?_) (a' := ?_) (bm 10 511) rfl rfl (take_ofW HT_.out HW_.out (by kernel_rfl)) (fun _ _ _ h => h) (Or.inl ⟨by rfl, ?_⟩) hHeld ?_ ?_
 rotate_left
 ·
  intro w' hS'
  have c8 := pw_cell_below hS' HC2.out
  go_simp
  with_reducible rfl
 rotate_left
 ·
  simp only [Act.put, List.setIfInBounds_toArray, List.set_cons_zero, List.set_cons_succ]
  rfl
 refine last_ (i := 9) (N := some 127) (bm 10 1023) rfl rfl (one_of HT_.out (by kernel_rfl)) (by decide) (fun K hK => ?_)
 refine goes_ Try.func36 (by kernel_rfl) rfl #[.pointer (some ⟨G, 0, none⟩), .int .i64 lv] (by rfl) rfl rfl (by (try simp only [List.map_toArray, List.map_cons, List.map_nil]); first | done | rfl) ?_
 refine (push_any _ base G (at_ + 1) deep s lv loc (HW2.out.below hHeld) (Nat.le_trans HV2.out hHeld.size) (by omega)).mono ?_
 rintro e V3 ⟨⟨v, rfl⟩, hw3, hB3, hk3⟩
 have hB23 := (hHeld.mono HV2.out).trans hB3
 refine ⟨_, rfl, ?_⟩
 refine hK.out _ _ ?_
 clear hK K
 refine norm_ (a' := ?_) ?_ ?_
 rotate_left
 ·
  show Act.put _ (some 127) _ = _
  simp only [Act.put, List.setIfInBounds_toArray, List.set_cons_zero, List.set_cons_succ]
  rfl
 refine done_ (done_of HT_.out (by kernel_rfl)) ?_
 have hE : DoesEnd W base G deep (at_ + 1) (s ++ [lv]) loc (.returned (.bool true)) V3 := by
  refine ⟨rfl, ⟨_, hw3, ?_⟩, HB2.out.trans hB23⟩
  split
  ·
   exact .inr (by simp)
  ·
   exact .inl (Int.le_refl _)
 have HE := hid_ hE
 clear hE hw3 hB3 hk3 hB23
 go_wp2_with (fail)
 go_ret
 exact HE.out
theorem Way.setLocal {W : World} {base G : Nat} {at_ : Int} {stk loc : List Int} {deep : Int} (h : Way W base G at_ stk loc deep) (i : Int) (a : Int) (h0 : 0 ≤ i) (h1 : i < loc.length) :
 ∃ b c vs cur, W.heap[G]? = some (.cells #[.int .i64 at_, vs, .slice (some ⟨b, 0, none⟩) loc.length c, .int .i64 deep] 63 (0, 0)) ∧ W.heap[b]? = some (.cells cur 3 (0, 0)) ∧ i.toNat < cur.size ∧ base ≤ b ∧
  ∀ W2, Below W.heap.size W W2 → Way (W2.setCell ⟨b, i.toNat, none⟩ (.int .i64 a)) base G at_ stk (loc.set i.toNat a) deep := by
 obtain ⟨vs, vl, hG, hb, hs, hlc, hne⟩ := h
 obtain ⟨inner, ho⟩ := Kd.R_own hlc
 rcases ho.2 with ⟨-, h2⟩ | ⟨b, c, cur, rfl, hbb, hh, hnc, -, hcs, -⟩
 ·
  have : loc.length = 0 := h2
  omega
 ·
  have hcs' : cur.size = c := by simpa [Kd.int, Kd.scalar] using hcs
  refine ⟨b, c, vs, cur, hG, hh, by omega, hbb, fun W2 hB => ?_⟩
  have hl2 : Row3 W2 base (.slice (some ⟨b, 0, none⟩) loc.length c) loc := Kd.R_below hlc hB
  have hs2 : Row3 W2 base vs stk := Kd.R_below hs hB
  have hbG : G ≠ b := by rintro rfl; rw [hG] at hh; cases hh
  refine ⟨vs, .slice (some ⟨b, 0, none⟩) loc.length c, set_far (blk_next hG hB) hbG, hb, ?_, ?_, fun k hk he => hne k hk he⟩
  ·
   refine hs2.step (fun k hk _ => Below.heap_setCell W2 _ _ k ?_)
   rintro rfl
   exact hne _ hk rfl
  ·
   have := (Kd.R_putg hl2 i a).1
   exact this
set_option maxHeartbeats 4000000 in
set_option maxRecDepth 100000 in
theorem does_save (W : World) (base G : Nat) (at_ deep f1 f2 f3 : Int) (s : List Int) (a : Int) (loc : List Int) (jump : Bool) (p0 p1 p2 p3 p4 p5 p6 : Value) (h : Way W base G at_ (s ++ [a]) loc deep) (hbW : base ≤ W.heap.size) (hl : s.length ≤ 10000) (h0 : 0 ≤ at_) (h1 : at_ ≤ 100000) (ha : a = 1 ∨ a = 2) (g0 : 0 ≤ f1) (g1 : f1 < loc.length) (hll : loc.length ≤ 10000) :
 Calls Try.prog 21 #[.pointer (some ⟨G, 0, none⟩), .agg #[p0, p1, p2, p3, p4, p5, p6], .agg #[.int .i64 31, .int .i64 f1, .int .i64 f2, .int .i64 f3], .bool jump] W (DoesEnd W base G deep (at_ + 1) s (loc.set f1.toNat a)) := by
 obtain ⟨loc2, hloc2⟩ : ∃ z, z = loc.set f1.toNat a := ⟨_, rfl⟩
 rw [← hloc2]
 have HLOC := hid_ hloc2
 clear hloc2
 have hw0 := h.below (two_allocs W (.cells #[p0, p1, p2, p3, p4, p5, p6] 28) (.cells #[.int .i64 31, .int .i64 f1, .int .i64 f2, .int .i64 f3] 66)).2.2
 obtain ⟨-, hX0, hB0⟩ := two_allocs W (.cells #[p0, p1, p2, p3, p4, p5, p6] 28) (.cells #[.int .i64 31, .int .i64 f1, .int .i64 f2, .int .i64 f3] 66)
 have hgl : G < W.heap.size := h.lt
 have hxg' : W.heap.size + 1 ≠ G := by omega
 have HXG' := hid_ hxg'
 clear h hgl hxg'
 have hk0 := KeepG.below (G := G) hB0
 have hBb := hB0.mono hbW
 have hs0 : ((W.alloc (.cells #[p0, p1, p2, p3, p4, p5, p6] 28)).alloc (.cells #[.int .i64 31, .int .i64 f1, .int .i64 f2, .int .i64 f3] 66)).heap.size = W.heap.size + 2 := by simp
 obtain ⟨A, c, vl, hG, hc, -⟩ := hw0.cells
 obtain ⟨x0, x1, x2, x3⟩ := cells4 hG
 have z0 := blk_frozen hG 0
 have ea : IntKind.i64.wrap (at_ + 1) = at_ + 1 := IntWalk.i64_in _ ⟨by omega, by omega⟩
 have ea2 : wrap64 (at_ + 1) = at_ + 1 := wrap_ _ (by omega) (by omega)
 go_enter Try.func21, Try.ntmps21
 go_upto_region 2 with (fail)
 clear x0 x1 x2 x3 z0 hG ea ea2
 have hw1 := hw0.setAt (at_ + 1)
 have hX1 := set_far (a := ⟨G, 0, none⟩) (v := .int .i64 (at_ + 1)) hX0 HXG'.out
 have hB1 := hBb.trans (hw1.2.1 base (Nat.le_refl _))
 have hk1 := hk0.trans hw1.2.2
 have hw2 := hw1.1
 have hbV := Nat.le_trans hbW hk1.1
 clear hw0 hX0 hB0 hBb hk0 hw1 hs0 hc
 generalize ((W.alloc (.cells #[p0, p1, p2, p3, p4, p5, p6] 28)).alloc (.cells #[.int .i64 31, .int .i64 f1, .int .i64 f2, .int .i64 f3] 66)).setCell ⟨G, 0, none⟩ (.int .i64 (at_ + 1)) = V at hX1 hB1 hk1 hw2 hbV ⊢
 have hxg := HXG'.out
 clear HXG'
 generalize hXe : W.heap.size + 1 = X at hX1 hxg ⊢
 have HW := hid_ hw2
 have HX := hid_ hX1
 have HB := hid_ hB1
 have HK := hid_ hk1
 have HV := hid_ hbV
 have HXG := hid_ hxg
 clear hw2 hX1 hB1 hk1 hbV hxg hXe
 obtain ⟨y0, y1, y2, y3⟩ := cells4 HX.out
 go_wp2_with (fail)
 refine (show Calls _ _ _ _ _ from pop_any V base G (at_ + 1) deep s a loc HW.out HV.out (by omega)).mono ?_
 rintro e V1 ⟨rfl, hw1, hB1, hk1⟩
 have hX1 := hk1.blk HX.out HXG.out
 clear y0 y1 y2 y3
 obtain ⟨y0, y1, y2, y3⟩ := cells4 hX1
 obtain ⟨b, cl, vs, cur, hG1, hL1, hjc, hbb, hset⟩ := hw1.setLocal f1 a g0 g1
 obtain ⟨x0, x1, x2, x3⟩ := cells4 hG1
 have HW1 := hid_ hw1
 have HB1 := hid_ (HB.out.trans hB1)
 have HV1 := hid_ (Nat.le_trans HV.out hk1.1)
 have HX1 := hid_ hX1
 have HG1 := hid_ hG1
 have HL1 := hid_ hL1
 have HSET := hid_ hset
 have n1 : decide (f1 < 0) = false := by rw [decide_eq_false_iff_not]; omega
 have n2 : decide ((loc.length : Int) ≤ f1) = false := by rw [decide_eq_false_iff_not]; omega
 have HA := hid_ ha
 clear hw1 hB1 hk1 hX1 hG1 hL1 hset HW HX HB HK HV ha
 go_upto_region 19 with (fail)
 go_region_held3 (fun w' => w'.cell? ⟨X, 1, none⟩ = some (.int .i64 f1) ∧ w'.cell? ⟨G, 2, none⟩ = some (.slice (some ⟨b, 0, none⟩) loc.length cl)) (go_keep) (fail)
 clear x0 x1 x2 x3 y0 y1 y2 y3
 go_upto_region 21 with (fail)
 have hD := (Below.refl V1.heap.size V1).drew
 have HG2 := hid_ (blk_next HG1.out hD)
 have HX2 := hid_ (blk_next HX1.out hD)
 have HLB := hid_ (blk_next HL1.out hD)
 have HDD := hid_ hD
 have HB2 := hid_ HB1.out.drew
 have hz2 : V1.drew.heap.size = V1.heap.size := rfl
 have HZ2 := hid_ hz2
 clear HG1 HX1 HL1 hD hz2
 generalize V1.drew = V2 at HG2 HX2 HLB HDD HB2 HZ2 ⊢
 refine start_ (n := 9) (S := fun w' => Below V2.heap.size V2 w') (ds := [8]) (bm 9 0) (by kernel_rfl) rfl (by kernel_rfl) (Below.refl _ _).drew (fun hHeld => ?_)
 refine with_tabW does.tab21 does.bits21 (fun HT_ HW_ => ?_)
 refine pure_ (i := 0) (N := some 82) (v := ?_) (a' := ?_) (bm 9 1) rfl rfl (any_of HT_.out (by kernel_rfl)) (fun _ _ _ h => h) (Or.inl ⟨by rfl, ?_⟩) ?_ ?_
 rotate_left
 ·
  intro w'
  go_simp
  with_reducible rfl
 rotate_left
 ·
  simp only [Act.put, List.setIfInBounds_toArray, List.set_cons_zero, List.set_cons_succ]
  rfl
 refine pure_ (i := 1) (N := some 83) (v := ?_) (a' := ?_) (bm 9 3) rfl rfl (any_of HT_.out (by kernel_rfl)) (fun _ _ _ h => h) (Or.inl ⟨by rfl, ?_⟩) ?_ ?_
 rotate_left
 ·
  intro w'
  go_simp
  with_reducible rfl
 rotate_left
 ·
  simp only [Act.put, List.setIfInBounds_toArray, List.set_cons_zero, List.set_cons_succ]
  rfl
 refine pure_ (i := 2) (N := some 84) (v := ?_) (a' := ?_) (bm 9 7) rfl rfl (any_of HT_.out (by kernel_rfl)) (fun _ _ _ h => h) (Or.inl ⟨by rfl, ?_⟩) ?_ ?_
 rotate_left
 ·
  intro w'
  go_simp
  with_reducible rfl
 rotate_left
 ·
  simp only [Act.put, List.setIfInBounds_toArray, List.set_cons_zero, List.set_cons_succ]
  rfl
 refine pure_ (i := 4) (N := some 86) (v := ?_) (a' := ?_) (bm 9 23) rfl rfl (any_of HT_.out (by kernel_rfl)) (fun _ _ _ h => h) (Or.inl ⟨by rfl, ?_⟩) ?_ ?_
 rotate_left
 ·
  intro w'
  go_simp
  with_reducible rfl
 rotate_left
 ·
  simp only [Act.put, List.setIfInBounds_toArray, List.set_cons_zero, List.set_cons_succ]
  rfl
 refine pure_ (i := 6) (N := some 88) (v := ?_) (a' := ?_) (bm 9 87) rfl rfl (any_of HT_.out (by kernel_rfl)) (fun _ _ _ h => h) (Or.inl ⟨by rfl, ?_⟩) ?_ ?_
 rotate_left
 ·
  intro w'
  go_simp
  with_reducible rfl
 rotate_left
 ·
  simp only [Act.put, List.setIfInBounds_toArray, List.set_cons_zero, List.set_cons_succ]
  rfl
 refine take_ (i := 3) (N := some 85) (v := ?_) (a' := ?_) (bm 9 95) rfl rfl (take_ofW HT_.out HW_.out (by kernel_rfl)) (fun _ _ _ h => h) (Or.inl ⟨by rfl, ?_⟩) hHeld ?_ ?_
 rotate_left
 ·
  intro w' hS'
  obtain ⟨x0, x1, x2, x3⟩ := cells4 (blk_next HG2.out hS')
  go_simp
  with_reducible rfl
 rotate_left
 ·
  simp only [Act.put, List.setIfInBounds_toArray, List.set_cons_zero, List.set_cons_succ]
  rfl
 refine take_ (i := 5) (N := some 87) (v := ?_) (a' := ?_) (bm 9 127) rfl rfl (take_ofW HT_.out HW_.out (by kernel_rfl)) (fun _ _ _ h => h) (Or.inl ⟨by rfl, ?_⟩) hHeld ?_ ?_
 rotate_left
 ·
  intro w' hS'
  obtain ⟨z0, z1, z2, z3⟩ := cells4 (blk_next HX2.out hS')
  go_simp
  with_reducible rfl
 rotate_left
 ·
  simp only [Act.put, List.setIfInBounds_toArray, List.set_cons_zero, List.set_cons_succ]
  rfl
 refine pure_ (i := 7) (N := some 89) (v := ?_) (a' := ?_) (bm 9 255) rfl rfl (any_of HT_.out (by kernel_rfl)) (fun _ _ _ h => h) (Or.inl ⟨by rfl, ?_⟩) ?_ ?_
 rotate_left
 ·
  intro w'
  go_simp
  with_reducible rfl
 rotate_left
 ·
  simp only [Act.put, List.setIfInBounds_toArray, List.set_cons_zero, List.set_cons_succ]
  rfl
 refine last_ (i := 8) (N := none) (bm 9 511) rfl rfl (one_of HT_.out (by kernel_rfl)) (by decide) (fun K hK => ?_)
 have g1 := blk_next HLB.out hHeld
 have y0 := cell_in g1 hjc
 have y1 := blk_frozen g1 f1.toNat
 go_simp
 refine hK.out _ _ ?_
 clear y0 y1
 clear hK K
 refine done_ (done_of HT_.out (by kernel_rfl)) ?_
 have hS0 := (HSET.out V2 HDD.out).below (Below.refl _ _).drew
 have hSB := (HB2.out.setCell (p := ⟨b, f1.toNat, none⟩) hbb (.int .i64 a)).drew
 have hSZ : base ≤ ((V2.setCell ⟨b, f1.toNat, none⟩ (.int .i64 a)).drew).heap.size := by
  have h2 := HZ2.out
  have h3 := HV1.out
  show base ≤ (V2.setCell ⟨b, f1.toNat, none⟩ (.int .i64 a)).heap.size
  have h4 : (V2.setCell ⟨b, f1.toNat, none⟩ (.int .i64 a)).heap.size = V2.heap.size := by simp [World.setCell]
  omega
 rw [← HLOC.out] at hS0
 generalize (V2.setCell ⟨b, f1.toNat, none⟩ (.int .i64 a)).drew = V3 at hS0 hSB hSZ ⊢
 go_wp2_with (fail)
 refine (show Calls _ _ _ _ _ from bitmap_yes a HA.out V3).mono ?_
 rintro e V4 ⟨rfl, hd4⟩
 have hF := Drawn0.below hd4
 have hE : DoesEnd W base G deep (at_ + 1) s loc2 (.returned (.bool true)) V4 := ⟨rfl, ⟨deep, hS0.below hF, .inl (Int.le_refl _)⟩, hSB.trans (hF.mono hSZ)⟩
 have HE := hid_ hE
 clear hE hF hd4 hS0 hSB hSZ
 go_wp2_with (fail)
 go_ret
 exact HE.out
set_option maxHeartbeats 4000000 in
set_option maxRecDepth 100000 in
theorem does_rest (W : World) (base G : Nat) (at_ deep f0 f1 f2 f3 : Int) (s takes : List Int) (puts : Int) (loc : List Int) (jump : Bool) (p0 p1 p2 p3 p4 p5 p6 : Value) (h : Way W base G at_ (s ++ takes) loc deep) (hbW : base ≤ W.heap.size) (hl : s.length ≤ 10000) (h0 : 0 ≤ at_) (h1 : at_ ≤ 100000) (g0 : 1 ≤ f0) (g1 : f0 ≤ 26) (g2 : 0 ≤ f1) (ht : takes.length ≤ 2) (he : ∃ k, berthref21_Effect.f k f0 f1 = some (takes, puts)) :
 Calls Try.prog 21 #[.pointer (some ⟨G, 0, none⟩), .agg #[p0, p1, p2, p3, p4, p5, p6], .agg #[.int .i64 f0, .int .i64 f1, .int .i64 f2, .int .i64 f3], .bool jump] W (DoesEnd W base G deep (at_ + 1) (s ++ [puts]) loc) := by
 obtain ⟨k, hk⟩ := he
 have HEF := hid_ hk
 clear hk
 have hw0 := h.below (two_allocs W (.cells #[p0, p1, p2, p3, p4, p5, p6] 28) (.cells #[.int .i64 f0, .int .i64 f1, .int .i64 f2, .int .i64 f3] 66)).2.2
 obtain ⟨-, hX0, hB0⟩ := two_allocs W (.cells #[p0, p1, p2, p3, p4, p5, p6] 28) (.cells #[.int .i64 f0, .int .i64 f1, .int .i64 f2, .int .i64 f3] 66)
 have hgl : G < W.heap.size := h.lt
 have hxg' : W.heap.size + 1 ≠ G := by omega
 have HXG' := hid_ hxg'
 clear h hgl hxg'
 have hk0 := KeepG.below (G := G) hB0
 have hBb := hB0.mono hbW
 have hs0 : ((W.alloc (.cells #[p0, p1, p2, p3, p4, p5, p6] 28)).alloc (.cells #[.int .i64 f0, .int .i64 f1, .int .i64 f2, .int .i64 f3] 66)).heap.size = W.heap.size + 2 := by simp
 obtain ⟨A, c, vl, hG, hc, -⟩ := hw0.cells
 obtain ⟨x0, x1, x2, x3⟩ := cells4 hG
 have z0 := blk_frozen hG 0
 have ea : IntKind.i64.wrap (at_ + 1) = at_ + 1 := IntWalk.i64_in _ ⟨by omega, by omega⟩
 have ea2 : wrap64 (at_ + 1) = at_ + 1 := wrap_ _ (by omega) (by omega)
 go_enter Try.func21, Try.ntmps21
 go_upto_region 2 with (fail)
 clear x0 x1 x2 x3 z0 hG ea ea2
 have hw1 := hw0.setAt (at_ + 1)
 have hX1 := set_far (a := ⟨G, 0, none⟩) (v := .int .i64 (at_ + 1)) hX0 HXG'.out
 have hB1 := hBb.trans (hw1.2.1 base (Nat.le_refl _))
 have hk1 := hk0.trans hw1.2.2
 have hw2 := hw1.1
 have hbV := Nat.le_trans hbW hk1.1
 clear hw0 hX0 hB0 hBb hk0 hw1 hs0 hc
 generalize ((W.alloc (.cells #[p0, p1, p2, p3, p4, p5, p6] 28)).alloc (.cells #[.int .i64 f0, .int .i64 f1, .int .i64 f2, .int .i64 f3] 66)).setCell ⟨G, 0, none⟩ (.int .i64 (at_ + 1)) = V at hX1 hB1 hk1 hw2 hbV ⊢
 have hxg := HXG'.out
 clear HXG'
 generalize hXe : W.heap.size + 1 = X at hX1 hxg ⊢
 have HW := hid_ hw2
 have HX := hid_ hX1
 have HB := hid_ hB1
 have HK := hid_ hk1
 have HV := hid_ hbV
 have HXG := hid_ hxg
 clear hw2 hX1 hB1 hk1 hbV hxg hXe
 have q27 : (f0 == 27) = false := by rw [beq_eq_false_iff_ne]; omega
 have q28 : (f0 == 28) = false := by rw [beq_eq_false_iff_ne]; omega
 have q29 : (f0 == 29) = false := by rw [beq_eq_false_iff_ne]; omega
 have q30 : (f0 == 30) = false := by rw [beq_eq_false_iff_ne]; omega
 have q31 : (f0 == 31) = false := by rw [beq_eq_false_iff_ne]; omega
 have q32 : (f0 == 32) = false := by rw [beq_eq_false_iff_ne]; omega
 have q33 : (f0 == 33) = false := by rw [beq_eq_false_iff_ne]; omega
 have q34 : (f0 == 34) = false := by rw [beq_eq_false_iff_ne]; omega
 have q35 : (f0 == 35) = false := by rw [beq_eq_false_iff_ne]; omega
 have n1 : decide (f0 < 1) = false := by rw [decide_eq_false_iff_not]; omega
 have n2 : decide (36 < f0) = false := by rw [decide_eq_false_iff_not]; omega
 have n3 : decide (f1 < 0) = false := by rw [decide_eq_false_iff_not]; omega
 have HG0 := hid_ g0
 have HG1 := hid_ g1
 have HG2 := hid_ g2
 clear g0 g1 g2
 obtain ⟨y0, y1, y2, y3⟩ := cells4 HX.out
 go_upto_region 32 with (fail)
 clear q27 q28 q29 q30 q31 q32 q33 q34 q35
 go_wp2_with (fail)
 refine (show Calls _ _ _ _ _ from berthref21_Effect.calls k f0 f1 takes puts V HEF.out).mono ?_
 rintro e V1 ⟨v0, rfl, hr1, hB1⟩
 have hw1 := HW.out.below hB1
 have hGV : G < V.heap.size := HW.out.lt
 obtain ⟨At, ct, rfl, hct, hCt⟩ := Kd.R_reads hr1
 have HB1 := hid_ (HB.out.trans (hB1.mono HV.out))
 have HV1 := hid_ (Nat.le_trans HV.out hB1.size)
 clear y0 y1 y2 y3 n1 n2 n3 HW HX HB HK HV HEF
 have e1 : IntKind.i64.wrap ((takes.length : Int) - 1) = (takes.length : Int) - 1 := IntWalk.i64_in _ ⟨by omega, by omega⟩
 have e2 : wrap64 ((takes.length : Int) - 1) = (takes.length : Int) - 1 := wrap_ _ (by omega) (by omega)
 go_wp2_with (fail)
 go_loopw [15] (fun i wr => ∃ j : Nat, j ≤ takes.length ∧ i = .int .i64 ((j : Int) - 1) ∧ Way wr base G (at_ + 1) (s ++ takes.take j) loc deep ∧ Below base W wr ∧ base ≤ wr.heap.size ∧ Row3 wr V.heap.size (.slice At takes.length ct) takes) (fun i _ => (intOf i + 1).toNat)
 case atStart => exact ⟨takes.length, Nat.le_refl _, rfl, by rw [List.take_length]; exact hw1, HB1.out, HV1.out, hr1⟩
 case round =>
  clear hr1 hCt hw1 HB1 HV1 e1 e2
  obtain ⟨j, hj, rfl, hwj, hBj, hbr, hrj⟩ := hrel
  rcases j with _ | q
  ·
   have n4 : decide ((0 : Int) ≤ ((0 : Nat) : Int) - 1) = false := by decide
   rw [List.take_zero, List.append_nil] at hwj
   have HWJ := hid_ hwj
   have HBJ := hid_ hBj
   have HBR := hid_ hbr
   clear hwj hBj hbr hrj
   go_wp2_with (fail)
   refine (show Calls _ _ _ _ _ from push_any wr base G (at_ + 1) deep s puts loc HWJ.out HBR.out (by omega)).mono ?_
   rintro e V3 ⟨⟨v, rfl⟩, hw3, hB3, hk3⟩
   have hE : DoesEnd W base G deep (at_ + 1) (s ++ [puts]) loc (.returned (.bool true)) V3 := by
    refine ⟨rfl, ⟨_, hw3, ?_⟩, HBJ.out.trans hB3⟩
    split
    ·
     exact .inr (by simp)
    ·
     exact .inl (Int.le_refl _)
   have HE := hid_ hE
   clear hE hw3 hB3 hk3 HWJ HBJ HBR
   go_wp2_with (fail)
   go_ret
   exact HE.out
  ·
   have hlt : q < takes.length := by omega
   obtain ⟨t, ht2⟩ : ∃ t, t = takes[q] := ⟨_, rfl⟩
   have htk : s ++ takes.take (q + 1) = (s ++ takes.take q) ++ [t] := by rw [ht2, List.append_assoc, List.take_append_getElem hlt]
   rw [htk] at hwj
   have hwq := hwj
   obtain ⟨Ar, cr, har, -, hCr⟩ := Kd.R_reads hrj
   injection har with har1 har2 har3
   subst har1
   obtain ⟨ad, rfl, hcell⟩ := Kd.at_int hCr (q : Int) (by omega) (by omega)
   have hrd : rd takes (q : Int) = t := by rw [ht2]; simp [rd, List.getD_eq_getElem?_getD, List.getElem?_eq_getElem hlt]
   rw [hrd, Int.toNat_natCast] at hcell
   have hadG : (ad.add q).block ≠ G := by
    have h1 := (Row3.lo hrj (k := ad.block) (by simp [Value.ownBlock])).1
    have h2 : (ad.add q).block = ad.block := by unfold Addr.add; split <;> rfl
    omega
   have ei : ((q + 1 : Nat) : Int) - 1 = (q : Int) := by omega
   have e3 : IntKind.i64.wrap ((q : Int) - 1) = (q : Int) - 1 := IntWalk.i64_in _ ⟨by omega, by omega⟩
   have e4 : wrap64 ((q : Int) - 1) = (q : Int) - 1 := wrap_ _ (by omega) (by omega)
   have n5 : decide ((0 : Int) ≤ (q : Int)) = true := by rw [decide_eq_true_eq]; omega
   have i1 : (q : Int) < (takes.length : Int) := by omega
   have i0 : (0 : Int) ≤ (q : Int) := by omega
   have HT2 := hid_ ht2
   have HWQ := hid_ hwq
   have HRJ := hid_ hrj
   have HBJ := hid_ hBj
   have HCE := hid_ hcell
   clear hwj htk hCr hrd ht2 har2 har3
   rw [ei]
   have hBj' := hBj
   clear hBj hrj hBj'
   go_upto_region 36 with (fail)
   refine start_ (n := 7) (S := fun w' => w'.cell? (ad.add q) = some (.int .i64 t)) (ds := []) (bm 7 0) (by kernel_rfl) rfl (by kernel_rfl) hcell (fun hHeld => ?_)
   refine with_tabW does.tab36 does.bits36 (fun HT_ HW_ => ?_)
   refine pure_ (i := 0) (N := some 161) (v := ?_) (a' := ?_) (bm 7 1) rfl rfl (any_of HT_.out (by kernel_rfl)) (fun _ _ _ h => h) (Or.inl ⟨by rfl, ?_⟩) ?_ ?_
   rotate_left
   ·
    intro w'
    go_simp
    with_reducible rfl
   rotate_left
   ·
    simp only [Act.put, List.setIfInBounds_toArray, List.set_cons_zero, List.set_cons_succ]
    rfl
   refine pure_ (i := 2) (N := some 163) (v := ?_) (a' := ?_) (bm 7 5) rfl rfl (any_of HT_.out (by kernel_rfl)) (fun _ _ _ h => h) (Or.inl ⟨by rfl, ?_⟩) ?_ ?_
   rotate_left
   ·
    intro w'
    go_simp
    with_reducible rfl
   rotate_left
   ·
    simp only [Act.put, List.setIfInBounds_toArray, List.set_cons_zero, List.set_cons_succ]
    rfl
   refine pure_ (i := 3) (N := some 164) (v := ?_) (a' := ?_) (bm 7 13) rfl rfl (any_of HT_.out (by kernel_rfl)) (fun _ _ _ h => h) (Or.inl ⟨by rfl, ?_⟩) ?_ ?_
   rotate_left
   ·
    intro w'
    go_simp
    with_reducible rfl
   rotate_left
   ·
    simp only [Act.put, List.setIfInBounds_toArray, List.set_cons_zero, List.set_cons_succ]
    rfl
   refine pure_ (i := 4) (N := some 165) (v := ?_) (a' := ?_) (bm 7 29) rfl rfl (any_of HT_.out (by kernel_rfl)) (fun _ _ _ h => h) (Or.inl ⟨by rfl, ?_⟩) ?_ ?_
   rotate_left
   ·
    intro w'
    go_simp
    with_reducible rfl
   rotate_left
   ·
    simp only [Act.put, List.setIfInBounds_toArray, List.set_cons_zero, List.set_cons_succ]
    rfl
   refine take_ (i := 5) (N := some 166) (v := ?_) (a' := ?_) (bm 7 61) rfl rfl (take_ofW HT_.out HW_.out (by kernel_rfl)) (fun _ _ _ h => h) (Or.inl ⟨by rfl, ?_⟩) hHeld ?_ ?_
   rotate_left
   ·
    intro w' hS'
    go_simp
    with_reducible rfl
   rotate_left
   ·
    simp only [Act.put, List.setIfInBounds_toArray, List.set_cons_zero, List.set_cons_succ]
    rfl
   refine one_ (i := 1) (N := some 162) (bm 7 63) rfl rfl (one_of HT_.out (by kernel_rfl)) (by decide) (fun K hK => ?_)
   refine goes_ Try.func35 (by kernel_rfl) rfl #[.pointer (some ⟨G, 0, none⟩)] (by rfl) rfl rfl (by (try simp only [List.map_toArray, List.map_cons, List.map_nil]); first | done | rfl) ?_
   refine (pop_any _ base G (at_ + 1) deep (s ++ takes.take q) t loc (hwq.below (Below.refl _ _).drew) hbr (by simp only [List.length_append, List.length_take]; omega)).mono ?_
   rintro e W3 ⟨rfl, hw3, hB3, hk3⟩
   refine ⟨_, rfl, ?_⟩
   refine hK.out _ _ ((World.cell?_of_block (hk3.2 _ (cell_lt hHeld) hadG)).trans hHeld) (fun hHeld => ?_)
   clear hK K
   refine norm_ (a' := ?_) ?_ ?_
   rotate_left
   ·
    show Act.put _ (some 162) _ = _
    simp only [Act.put, List.setIfInBounds_toArray, List.set_cons_zero, List.set_cons_succ]
    rfl
   refine pure_ (i := 6) (N := some 167) (v := ?_) (a' := ?_) (bm 7 127) rfl rfl (any_of HT_.out (by kernel_rfl)) (fun _ _ _ h => h) (Or.inl ⟨by rfl, ?_⟩) ?_ ?_
   rotate_left
   ·
    intro w'
    go_simp
    with_reducible rfl
   rotate_left
   ·
    simp only [Act.put, List.setIfInBounds_toArray, List.set_cons_zero, List.set_cons_succ]
    rfl
   refine done_ (done_of HT_.out (by kernel_rfl)) ?_
   have hrow3 : Row3 W3 V.heap.size (.slice (some ad) takes.length ct) takes := Row3.step HRJ.out (fun k hk hlt => (hk3.2 k hlt (fun e => by have := (Row3.lo HRJ.out hk).1; omega)))
   have hb3 : base ≤ W3.heap.size := Nat.le_trans hbr hk3.1
   have hBB := HBJ.out.drew.trans hB3
   clear hHeld hk3 hB3 hcell hwq HCE HWQ HRJ HBJ HT2
   go_wp2_with (fail)
   go_roundw
   case rel => exact ⟨q, by omega, rfl, hw3, hBB, hb3, hrow3⟩
   case measure => simp [intOf]
theorem does_any (W : World) (base G : Nat) (at_ deep : Int) (x : S66) (jump : Bool) (stk loc : List Int) (at2 : Int) (stk2 loc2 : List Int) (p0 p1 p2 p3 p4 p5 p6 : Value) (h : Way W base G at_ stk loc deep) (hbW : base ≤ W.heap.size) (hl : stk.length ≤ 10000) (hll : loc.length ≤ 10000) (h0 : 0 ≤ at_) (h1 : at_ ≤ 100000) (hd : DoesTo x jump at_ stk loc at2 stk2 loc2) :
 Calls Try.prog 21 #[.pointer (some ⟨G, 0, none⟩), .agg #[p0, p1, p2, p3, p4, p5, p6], .agg #[.int .i64 x.f0, .int .i64 x.f1, .int .i64 x.f2, .int .i64 x.f3], .bool jump] W (DoesEnd W base G deep at2 stk2 loc2) := by
 cases hd with
 | two s a _ g ha => exact does_two W base G at_ deep x.f0 x.f1 x.f2 x.f3 s a loc jump p0 p1 p2 p3 p4 p5 p6 h hbW (by simp at hl; omega) h0 h1 g ha
 | one s a _ g ha =>
  have hs : s.length ≤ 10000 := by simp at hl; omega
  rcases g with g | g | g
  ·
   rw [if_neg (fun q => q.1 g), g]
   exact does_30 W base G at_ deep x.f1 x.f2 x.f3 s a loc jump p0 p1 p2 p3 p4 p5 p6 h hbW hs h0 h1 ha
  ·
   cases jump with
   | false => rw [if_neg (by simp), g]; exact does_33n W base G at_ deep x.f1 x.f2 x.f3 s a loc p0 p1 p2 p3 p4 p5 p6 h hbW hs h0 h1 ha
   | true => rw [if_pos ⟨by omega, rfl⟩, g]; exact does_33j W base G at_ deep x.f1 x.f2 x.f3 s a loc p0 p1 p2 p3 p4 p5 p6 h hbW hs h0 h1 ha
  ·
   cases jump with
   | false => rw [if_neg (by simp), g]; exact does_34n W base G at_ deep x.f1 x.f2 x.f3 s a loc p0 p1 p2 p3 p4 p5 p6 h hbW hs h0 h1 ha
   | true => rw [if_pos ⟨by omega, rfl⟩, g]; exact does_34j W base G at_ deep x.f1 x.f2 x.f3 s a loc p0 p1 p2 p3 p4 p5 p6 h hbW hs h0 h1 ha
 | save s a _ g ha g0 g1 => rw [g]; exact does_save W base G at_ deep x.f1 x.f2 x.f3 stk2 a loc jump p0 p1 p2 p3 p4 p5 p6 h hbW (by simp at hl; omega) h0 h1 ha g0 g1 hll
 | load s _ g g0 g1 hn => rw [g]; exact does_load W base G at_ deep x.f1 x.f2 x.f3 stk loc jump p0 p1 p2 p3 p4 p5 p6 h hbW hl h0 h1 g0 g1 hll _ rfl hn
 | pop s a _ g ha => rw [g]; exact does_pop W base G at_ deep x.f1 x.f2 x.f3 stk2 a loc jump p0 p1 p2 p3 p4 p5 p6 h hbW (by simp at hl; omega) h0 h1 ha
 | rest s takes puts _ g1 g2 g3 ht he => exact does_rest W base G at_ deep x.f0 x.f1 x.f2 x.f3 s takes puts loc jump p0 p1 p2 p3 p4 p5 p6 h hbW (by simp at hl; omega) h0 h1 g1 g2 g3 ht he
end Go.Proofs.Ytbnplhmmbnmagaa.D
