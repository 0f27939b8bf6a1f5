/- A part of the proof of CodeDecodes: walks written by a program of this session. -/
import Derived.Test.YtlocnfkkfpfpfaazCDm1
namespace Go.Proofs.Ytlocnfkkfpfpfaa.Six
open Go.RowKit Go.Proofs.YtlocnfkkfpfpfaaW.PrintWords Go.Proofs.YtlocnfkkfpfpfaaW.PrintLast Go.Proofs.YtlocnfkkfpfpfaaW.PrintMore
attribute [local go_sem] max2_int min2_int max_two min_two max_three min_three max_four min_four
attribute [local go_sem] Go.Proofs.YtlocnfkkfpfpfaaX.binOp_leq Go.Proofs.YtlocnfkkfpfpfaaX.binOp_geq Go.Proofs.YtlocnfkkfpfpfaaX.binOp_gtr
set_option linter.unusedVariables false
set_option linter.unusedSimpArgs false
def IsS85 (w0 W : World) (g : Nat) (f0 : List Int) (f1 : Int) (f2 : Int) (f3 : Int) : Prop := ∃ A0 c0, W.heap[g]? = some (.cells #[.slice A0 f0.length c0, .int .i64 f1, .int .i64 f2, .int .i64 f3] 85 (0, 0)) ∧ w0.heap.size ≤ g ∧ (Kd.C (Kd.int .u8) w0 A0 f0.length f0 ∧ f0.length ≤ c0)
theorem IsS85.old {w0 W : World} {g : Nat} {f0 : List Int} {f1 f2 f3 : Int} (h : IsS85 w0 W g f0 f1 f2 f3) : ∃ A0 c0, W.heap[g]? = some (.cells #[.slice A0 f0.length c0, .int .i64 f1, .int .i64 f2, .int .i64 f3] 85 (0, 0)) ∧ w0.heap.size ≤ g ∧ Kd.C (Kd.int .u8) w0 A0 f0.length f0 := by
  obtain ⟨A0, c0, hb, hg, hr0⟩ := h
  exact ⟨A0, c0, hb, hg, hr0.1⟩
theorem IsS85.grown {w0 W : World} {g : Nat} {f0 : List Int} {f1 : Int} {f2 : Int} {f3 : Int} {W1 : World} {row : Option Nat} (h : IsS85 w0 W g f0 f1 f2 f3) (hw : W.grownBy W1 row) (hne : some g ≠ row) : IsS85 w0 W1 g f0 f1 f2 f3 := by
  obtain ⟨A0, c0, hb, hg, hr0⟩ := h
  exact ⟨A0, c0, blk_grown hb hw hne, hg, hr0⟩
theorem IsS85.kept {w0 W : World} {g : Nat} {f0 : List Int} {f1 : Int} {f2 : Int} {f3 : Int} {W1 : World} {S : Nat → Prop} (h : IsS85 w0 W g f0 f1 f2 f3) (hk : Kept W W1 S) (hne : ¬ S g) : IsS85 w0 W1 g f0 f1 f2 f3 := by
  obtain ⟨A0, c0, hb, hg, hr0⟩ := h
  exact ⟨A0, c0, blk_kept hb hk hne, hg, hr0⟩
theorem IsS85.below {w0 W : World} {g : Nat} {f0 : List Int} {f1 : Int} {f2 : Int} {f3 : Int} {W1 : World} (h : IsS85 w0 W g f0 f1 f2 f3) (hw : Below W.heap.size W W1) : IsS85 w0 W1 g f0 f1 f2 f3 := h.grown (grown_of_below hw none) (by simp)
theorem IsS85.alloc {w0 W : World} {g : Nat} {f0 : List Int} {f1 : Int} {f2 : Int} {f3 : Int} (h : IsS85 w0 W g f0 f1 f2 f3) (o : Obj) : IsS85 w0 (W.alloc o) g f0 f1 f2 f3 := h.below (below_alloc (Below.refl _ _) o)
theorem IsS85.drewN {w0 W : World} {g : Nat} {f0 : List Int} {f1 : Int} {f2 : Int} {f3 : Int} (h : IsS85 w0 W g f0 f1 f2 f3) (m : Nat) : IsS85 w0 (W.drewN m) g f0 f1 f2 f3 := h
theorem IsS85.drew {w0 W : World} {g : Nat} {f0 : List Int} {f1 : Int} {f2 : Int} {f3 : Int} (h : IsS85 w0 W g f0 f1 f2 f3) : IsS85 w0 W.drew g f0 f1 f2 f3 := h
theorem IsS85.at_ {w0 W : World} {g : Nat} {f0 : List Int} {f1 : Int} {f2 : Int} {f3 : Int} {w' : World} {m : Nat} (hq : W.drewN m = w') (h : IsS85 w0 W g f0 f1 f2 f3) : IsS85 w0 w' g f0 f1 f2 f3 := by subst hq; exact IsS85.drewN h m
theorem IsS85.apart {w0 W : World} {g : Nat} {f0 : List Int} {f1 : Int} {f2 : Int} {f3 : Int} {α : Type} {d : Kd α} {e : Nat} {base : Nat} {ok : Nat → Prop} {v : Value} {xs : List α} (h : IsS85 w0 W g f0 f1 f2 f3) (ho : d.R e W base ok v xs) (ht : ∀ q, q ∈ e :: d.E → q ≠ 85) : d.R e W base (fun k => ok k ∧ k ≠ g) v xs := by
  obtain ⟨A0, c0, hb, hg, hr0⟩ := h
  exact Kd.R_types ho hb ht
theorem IsS85.own_ne {w0 W : World} {g : Nat} {f0 : List Int} {f1 : Int} {f2 : Int} {f3 : Int} {α : Type} {d : Kd α} {e : Nat} {base : Nat} {ok : Nat → Prop} {v : Value} {xs : List α} (h : IsS85 w0 W g f0 f1 f2 f3) (ho : d.R e W base ok v xs) (ht : e ≠ 85) : some g ≠ v.ownBlock := by
  obtain ⟨A0, c0, hb, hg, hr0⟩ := h
  exact Kd.R_ne ho hb ht
theorem IsS85.lt {w0 W : World} {g : Nat} {f0 : List Int} {f1 : Int} {f2 : Int} {f3 : Int} (h : IsS85 w0 W g f0 f1 f2 f3) : g < W.heap.size := by
  obtain ⟨A0, c0, hb, hg, hr0⟩ := h
  exact blk_lt hb
theorem IsS85.ge {w0 W : World} {g : Nat} {f0 : List Int} {f1 : Int} {f2 : Int} {f3 : Int} (h : IsS85 w0 W g f0 f1 f2 f3) : w0.heap.size ≤ g := by
  obtain ⟨A0, c0, hb, hg, hr0⟩ := h
  exact hg
theorem IsS85.far {w0 W : World} {g : Nat} {f0 : List Int} {f1 : Int} {f2 : Int} {f3 : Int} {p : Addr} (h : IsS85 w0 W g f0 f1 f2 f3) (hne : g ≠ p.block) (u : Value) : IsS85 w0 (W.setCell p u) g f0 f1 f2 f3 := by
  obtain ⟨A0, c0, hb, hg, hr0⟩ := h
  exact ⟨A0, c0, blk_far hb hne u, hg, hr0⟩
theorem cellS85_0 {W : World} {g : Nat} {A0 : Option Addr} {c0 : Nat} {f0 : List Int} {f1 : Int} {f2 : Int} {f3 : Int} (h : W.heap[g]? = some (.cells #[.slice A0 f0.length c0, .int .i64 f1, .int .i64 f2, .int .i64 f3] 85 (0, 0))) : W.cell? ⟨g, 0, none⟩ = some (.slice A0 f0.length c0) := (blk_cell h 0).trans rfl
theorem cellS85_1 {W : World} {g : Nat} {A0 : Option Addr} {c0 : Nat} {f0 : List Int} {f1 : Int} {f2 : Int} {f3 : Int} (h : W.heap[g]? = some (.cells #[.slice A0 f0.length c0, .int .i64 f1, .int .i64 f2, .int .i64 f3] 85 (0, 0))) : W.cell? ⟨g, 1, none⟩ = some (.int .i64 f1) := (blk_cell h 1).trans rfl
theorem IsS85.set_1 {w0 W : World} {g : Nat} {f0 : List Int} {f1 : Int} {f2 : Int} {f3 : Int} (h : IsS85 w0 W g f0 f1 f2 f3) (x : Int) : IsS85 w0 (W.setCell ⟨g, 1, none⟩ (.int .i64 x)) g f0 x f2 f3 := by
  obtain ⟨A0, c0, hb, hg, hr0⟩ := h
  exact ⟨A0, c0, by simpa using blk_set hb 1 (.int .i64 x), hg, hr0⟩
theorem cellS85_2 {W : World} {g : Nat} {A0 : Option Addr} {c0 : Nat} {f0 : List Int} {f1 : Int} {f2 : Int} {f3 : Int} (h : W.heap[g]? = some (.cells #[.slice A0 f0.length c0, .int .i64 f1, .int .i64 f2, .int .i64 f3] 85 (0, 0))) : W.cell? ⟨g, 2, none⟩ = some (.int .i64 f2) := (blk_cell h 2).trans rfl
theorem IsS85.set_2 {w0 W : World} {g : Nat} {f0 : List Int} {f1 : Int} {f2 : Int} {f3 : Int} (h : IsS85 w0 W g f0 f1 f2 f3) (x : Int) : IsS85 w0 (W.setCell ⟨g, 2, none⟩ (.int .i64 x)) g f0 f1 x f3 := by
  obtain ⟨A0, c0, hb, hg, hr0⟩ := h
  exact ⟨A0, c0, by simpa using blk_set hb 2 (.int .i64 x), hg, hr0⟩
theorem cellS85_3 {W : World} {g : Nat} {A0 : Option Addr} {c0 : Nat} {f0 : List Int} {f1 : Int} {f2 : Int} {f3 : Int} (h : W.heap[g]? = some (.cells #[.slice A0 f0.length c0, .int .i64 f1, .int .i64 f2, .int .i64 f3] 85 (0, 0))) : W.cell? ⟨g, 3, none⟩ = some (.int .i64 f3) := (blk_cell h 3).trans rfl
theorem IsS85.set_3 {w0 W : World} {g : Nat} {f0 : List Int} {f1 : Int} {f2 : Int} {f3 : Int} (h : IsS85 w0 W g f0 f1 f2 f3) (x : Int) : IsS85 w0 (W.setCell ⟨g, 3, none⟩ (.int .i64 x)) g f0 f1 f2 x := by
  obtain ⟨A0, c0, hb, hg, hr0⟩ := h
  exact ⟨A0, c0, by simpa using blk_set hb 3 (.int .i64 x), hg, hr0⟩
def berthref20_Reader_fail.f (s0_0 : List Int) (s0_1 : Int) (s0_2 : Int) (s0_3 : Int) (a1 : Int) (a2 : Int) : Option (Int × Int × Int) := if s0_2 = 0 then (some (s0_1, a1, a2)) else (some (s0_1, s0_2, s0_3))
set_option maxHeartbeats 8000000 in
set_option maxRecDepth 100000 in
theorem berthref20_Reader_fail.calls (g : Nat) (s0_0 : List Int) (s0_1 : Int) (s0_2 : Int) (s0_3 : Int) (a1 : Int) (a2 : Int) (r1 : Int) (r2 : Int) (r3 : Int) (w0 w : World) (hI : IsS85 w0 w g s0_0 s0_1 s0_2 s0_3) (hB : Below w0.heap.size w0 w) (h : berthref20_Reader_fail.f s0_0 s0_1 s0_2 s0_3 a1 a2 = some (r1, r2, r3)) :
 Calls Try.prog 47 #[.pointer (some ⟨g, 0, none⟩), .int .i64 a1, .int .i64 a2] w fun e w' => e = .returned (.tuple #[]) ∧ IsS85 w0 w' g s0_0 r1 r2 r3 ∧ Below w0.heap.size w0 w' ∧ KeepBut w w' g none := by
 have HI0 := Aside0.mk hI
 have HK := Aside0.mk (KeepBut.refl w g none)
 have HL := Aside0.mk hB.size
 clear hI
 have HW0 := Aside0.mk hB.size
 have HB := Aside0.mk hB
 clear hB
 have H : (if s0_2 = 0 then (some (s0_1, a1, a2)) else (some (s0_1, s0_2, s0_3))) = some (r1, r2, r3) := h
 clear h
 by_cases c4 : s0_2 = 0
 ·
  rw [if_pos c4] at H
  have c4b0 : (s0_2 == 0) = true := beq_iff_eq.mpr c4
  have c4b1 : (s0_2 != 0) = false := bne_eq_false_iff_eq.mpr c4
  clear c4
  simp only [Option.some.injEq, Prod.mk.injEq] at H
  obtain ⟨rfl, rfl, rfl⟩ := H
  obtain ⟨ASz5_0, cSz5_0, HGz5, hgz5, HSz5_0⟩ := HI0.out.old
  have hcz5_0 := cellS85_0 HGz5
  have hcz5_1 := cellS85_1 HGz5
  have hcz5_2 := cellS85_2 HGz5
  have hcz5_3 := cellS85_3 HGz5
  have hfz5_1 := blk_frozen HGz5 1
  have hfz5_2 := blk_frozen HGz5 2
  have hfz5_3 := blk_frozen HGz5 3
  clear HGz5 hgz5
  go_enter Try.func47, Try.ntmps47
  go_wp2
  first | go_end0 | ((try simp only [Exit.inBlock, Exit.then]); refine bodyPost_ret (results_none rfl _ _ _) rfl ?_)
  exact ⟨by first | rfl | (simp [errW_none, errW_some] <;> rfl) | (simp [*, errW_none, errW_some] <;> rfl), by repeat (first | (with_reducible first | exact HI0.out | apply IsS85.alloc | apply IsS85.drewN | apply IsS85.drew | apply IsS85.set_1 | apply IsS85.set_2 | apply IsS85.set_3) | exact HI0.out), by repeat (first | (with_reducible first | exact HB.out | apply below_alloc | apply pw_below_drewN | apply below_drew1 | refine below_set ?_ (IsS85.ge HI0.out)) | exact HB.out), by repeat (first | (with_reducible first | exact HK.out | apply KeepBut.set_ | apply keep_drewN | apply keep_drew | apply keep_alloc) | exact HK.out)⟩
 ·
  rw [if_neg c4] at H
  have c4b0 : (s0_2 == 0) = false := beq_eq_false_iff_ne.mpr c4
  have c4b1 : (s0_2 != 0) = true := bne_iff_ne.mpr c4
  simp only [Option.some.injEq, Prod.mk.injEq] at H
  obtain ⟨rfl, rfl, rfl⟩ := H
  obtain ⟨ASz6_0, cSz6_0, HGz6, hgz6, HSz6_0⟩ := HI0.out.old
  have hcz6_0 := cellS85_0 HGz6
  have hcz6_1 := cellS85_1 HGz6
  have hcz6_2 := cellS85_2 HGz6
  have hcz6_3 := cellS85_3 HGz6
  have hfz6_1 := blk_frozen HGz6 1
  have hfz6_2 := blk_frozen HGz6 2
  have hfz6_3 := blk_frozen HGz6 3
  clear HGz6 hgz6
  go_enter Try.func47, Try.ntmps47
  go_wp2
  first | go_end0 | ((try simp only [Exit.inBlock, Exit.then]); refine bodyPost_ret (results_none rfl _ _ _) rfl ?_)
  exact ⟨by first | rfl | (simp [errW_none, errW_some] <;> rfl) | (simp [*, errW_none, errW_some] <;> rfl), by repeat (first | (with_reducible first | exact HI0.out | apply IsS85.alloc | apply IsS85.drewN | apply IsS85.drew | apply IsS85.set_1 | apply IsS85.set_2 | apply IsS85.set_3) | exact HI0.out), by repeat (first | (with_reducible first | exact HB.out | apply below_alloc | apply pw_below_drewN | apply below_drew1 | refine below_set ?_ (IsS85.ge HI0.out)) | exact HB.out), by repeat (first | (with_reducible first | exact HK.out | apply KeepBut.set_ | apply keep_drewN | apply keep_drew | apply keep_alloc) | exact HK.out)⟩
def berthref20_Reader_head.l0 : Nat → List Int → Int → List Int → Int → Int → Int → Option (Int × Int × Int)
  | 0, _, _, _, _, _, _ => none
  | k + 1, x2, x3, x1000, x1001, x1002, x1003 => if x3 < 4 then (if x3 ≥ (x1000.length : Int) then ((berthref20_Reader_fail.f x1000 x1001 x1002 x1003 201 x3).bind fun bt345 => (some (bt345.1, bt345.2.1, bt345.2.2))) else (if 0 ≤ x3 then (if x3 < (x1000.length : Int) then (if x3 < (x2.length : Int) then (if (rd x1000 x3) = (rd x2 x3) then (berthref20_Reader_head.l0 k x2 (wrap64 (x3 + 1)) x1000 x1001 x1002 x1003) else ((berthref20_Reader_fail.f x1000 x1001 x1002 x1003 200 x3).bind fun bt350 => (some (bt350.1, bt350.2.1, bt350.2.2)))) else (none)) else (none)) else (none))) else (some (4, x1002, x1003))
def berthref20_Reader_head.f (k : Nat) (s0_0 : List Int) (s0_1 : Int) (s0_2 : Int) (s0_3 : Int) : Option (Int × Int × Int) := berthref20_Reader_head.l0 k (([66, 82, 84, 1] : List Int)) 0 s0_0 s0_1 s0_2 s0_3
theorem berthref20_Reader_head.mono_l : ∀ k, (∀ y0 y1 y2 y3 y4 y5, LeO (berthref20_Reader_head.l0 k y0 y1 y2 y3 y4 y5) (berthref20_Reader_head.l0 (k + 1) y0 y1 y2 y3 y4 y5))
  | 0 => fun _ _ _ _ _ _ r h => by simp [berthref20_Reader_head.l0] at h
  | k + 1 => by
    have ih0 := berthref20_Reader_head.mono_l k
    · intro y0 y1 y2 y3 y4 y5
      unfold berthref20_Reader_head.l0
      repeat' first
      | (with_reducible exact ih0 _ _ _ _ _ _)
      | (with_reducible exact LeO.refl _)
      | (with_reducible exact LeO.none _)
      | (with_reducible refine LeO.ite ?_ ?_)
      | (with_reducible refine LeO.bind ?_ (fun _ => ?_))
      | exact ih0 _ _ _ _ _ _
      | exact LeO.none _
      | refine LeO.ite ?_ ?_
      | refine LeO.bind ?_ (fun _ => ?_)
theorem berthref20_Reader_head.mono : ∀ a0 a1 a2 a3 k, LeO (berthref20_Reader_head.f k a0 a1 a2 a3) (berthref20_Reader_head.f (k + 1) a0 a1 a2 a3) := by
  intro a0 a1 a2 a3 k
  have ih0 := berthref20_Reader_head.mono_l k
  unfold berthref20_Reader_head.f
  repeat' first
      | (with_reducible exact ih0 _ _ _ _ _ _)
      | (with_reducible exact LeO.refl _)
      | (with_reducible exact LeO.none _)
      | (with_reducible refine LeO.ite ?_ ?_)
      | (with_reducible refine LeO.bind ?_ (fun _ => ?_))
      | exact ih0 _ _ _ _ _ _
      | exact LeO.none _
      | refine LeO.ite ?_ ?_
      | refine LeO.bind ?_ (fun _ => ?_)
set_option maxHeartbeats 8000000 in
set_option maxRecDepth 100000 in
theorem berthref20_Reader_head.calls (k : Nat) (g : Nat) (s0_0 : List Int) (s0_1 : Int) (s0_2 : Int) (s0_3 : Int) (r1 : Int) (r2 : Int) (r3 : Int) (w0 w : World) (hI : IsS85 w0 w g s0_0 s0_1 s0_2 s0_3) (hB : Below w0.heap.size w0 w) (h : berthref20_Reader_head.f k s0_0 s0_1 s0_2 s0_3 = some (r1, r2, r3)) :
 Calls Try.prog 41 #[.pointer (some ⟨g, 0, none⟩)] w fun e w' => e = .returned (.tuple #[]) ∧ IsS85 w0 w' g s0_0 r1 r2 r3 ∧ Below w0.heap.size w0 w' ∧ KeepBut w w' g none := by
 have HI0 := Aside0.mk hI
 have HK := Aside0.mk (KeepBut.refl w g none)
 have HL := Aside0.mk hB.size
 clear hI
 have HW0 := Aside0.mk hB.size
 have HB := Aside0.mk hB
 clear hB
 have H : (berthref20_Reader_head.l0 k (([66, 82, 84, 1] : List Int)) 0 s0_0 s0_1 s0_2 s0_3) = some (r1, r2, r3) := h
 clear h
 obtain ⟨y342, hy342⟩ : ∃ y_ : List Int, y_ = (([66, 82, 84, 1] : List Int)) := ⟨_, rfl⟩
 replace H : (berthref20_Reader_head.l0 k y342 0 s0_0 s0_1 s0_2 s0_3) = some (r1, r2, r3) := by first | (rw [hy342]; with_reducible exact H) | (have H2_ := (Option.bind_some _ _).symm.trans H; rw [hy342]; with_reducible exact H2_) | (have H2_ := (Option.bind_some _ _).symm.trans H; with_reducible exact H2_) | with_reducible exact H | (rw [hy342]; exact H) | exact H
 have Ny342 := Aside0.mk hy342
 clear hy342
 have H' := Aside0.mk H
 clear H
 go_enter Try.func41, Try.ntmps41
 go_wp2_with (first | ((with_reducible refine gate_dst (N := 4) rfl ?_); refine Kd.R_lit (Kd.int .u8) _ 5 ?hg (N := 4) ?hd (xs := ([66, 82, 84, 1] : List Int)) (inner := [.int .u8 66, .int .u8 82, .int .u8 84, .int .u8 1]) (ok := fun _ => True) (okp := fun _ => True) ?hr ?hp (fun _ hk => hk) trivial (Below.refl _ _) (Nat.le_refl _) (by simp) ?_; (case hd => rfl); (case hg => rfl); (case hr => first | (go_simp; done) | (go_simp; rfl)); (case hp => exact (Reps.one (show Kd.M (Kd.int .u8) _ _ _ 66 [.int .u8 66] from rfl) (Reps.one (show Kd.M (Kd.int .u8) _ _ _ 82 [.int .u8 82] from rfl) (Reps.one (show Kd.M (Kd.int .u8) _ _ _ 84 [.int .u8 84] from rfl) (Reps.one (show Kd.M (Kd.int .u8) _ _ _ 1 [.int .u8 1] from rfl) (Reps.none _ _)))))); intro v343 w2 ho3 hb hg_ hnew_; clear hg_ hnew_; (first | rw [← Ny342.out] at ho3 | (simp only [Int.reduceToNat] at ho3; rw [← Ny342.out] at ho3)); have n0_ := Aside0.mk (Kd.R_lower ho3 (keep_size (w := w) (g := g) (row := none) (by repeat (first | (with_reducible first | exact HK.out | apply KeepBut.set_ | apply keep_drewN | apply keep_drew | apply keep_alloc) | exact HK.out)))); have n1_ := Aside0.mk (IsS85.below (by repeat (first | (with_reducible first | exact HI0.out | apply IsS85.alloc | apply IsS85.drewN | apply IsS85.drew | apply IsS85.set_1 | apply IsS85.set_2 | apply IsS85.set_3) | exact HI0.out)) hb); have n2_ := Aside0.mk (KeepBut.trans (by repeat (first | (with_reducible first | exact HK.out | apply KeepBut.set_ | apply keep_drewN | apply keep_drew | apply keep_alloc) | exact HK.out)) (KeepBut.of_below hb g none) (.inl rfl)); have n3_ := Aside0.mk (below_step (by repeat (first | (with_reducible first | exact HB.out | apply below_alloc | apply pw_below_drewN | apply below_drew1 | refine below_set ?_ (IsS85.ge HI0.out)) | exact HB.out)) hb); clear HI0; clear HK; clear HB; have HO344 := n0_; have HI0 := n1_; have HK := n2_; have HB := n3_; clear n0_ n1_ n2_ n3_; clear hb ho3))
 repeat (go_quiet (first | ((with_reducible refine gate_dst (N := 4) rfl ?_); refine Kd.R_lit (Kd.int .u8) _ 5 ?hg (N := 4) ?hd (xs := ([66, 82, 84, 1] : List Int)) (inner := [.int .u8 66, .int .u8 82, .int .u8 84, .int .u8 1]) (ok := fun _ => True) (okp := fun _ => True) ?hr ?hp (fun _ hk => hk) trivial (Below.refl _ _) (Nat.le_refl _) (by simp) ?_; (case hd => rfl); (case hg => rfl); (case hr => first | (go_simp; done) | (go_simp; rfl)); (case hp => exact (Reps.one (show Kd.M (Kd.int .u8) _ _ _ 66 [.int .u8 66] from rfl) (Reps.one (show Kd.M (Kd.int .u8) _ _ _ 82 [.int .u8 82] from rfl) (Reps.one (show Kd.M (Kd.int .u8) _ _ _ 84 [.int .u8 84] from rfl) (Reps.one (show Kd.M (Kd.int .u8) _ _ _ 1 [.int .u8 1] from rfl) (Reps.none _ _)))))); intro v343 w2 ho3 hb hg_ hnew_; clear hg_ hnew_; (first | rw [← Ny342.out] at ho3 | (simp only [Int.reduceToNat] at ho3; rw [← Ny342.out] at ho3)); have n0_ := Aside0.mk (Kd.R_lower ho3 (keep_size (w := w) (g := g) (row := none) (by repeat (first | (with_reducible first | exact HK.out | apply KeepBut.set_ | apply keep_drewN | apply keep_drew | apply keep_alloc) | exact HK.out)))); have n1_ := Aside0.mk (IsS85.below (by repeat (first | (with_reducible first | exact HI0.out | apply IsS85.alloc | apply IsS85.drewN | apply IsS85.drew | apply IsS85.set_1 | apply IsS85.set_2 | apply IsS85.set_3) | exact HI0.out)) hb); have n2_ := Aside0.mk (KeepBut.trans (by repeat (first | (with_reducible first | exact HK.out | apply KeepBut.set_ | apply keep_drewN | apply keep_drew | apply keep_alloc) | exact HK.out)) (KeepBut.of_below hb g none) (.inl rfl)); have n3_ := Aside0.mk (below_step (by repeat (first | (with_reducible first | exact HB.out | apply below_alloc | apply pw_below_drewN | apply below_drew1 | refine below_set ?_ (IsS85.ge HI0.out)) | exact HB.out)) hb); clear HI0; clear HK; clear HB; have HO344 := n0_; have HI0 := n1_; have HK := n2_; have HB := n3_; clear n0_ n1_ n2_ n3_; clear hb ho3)); try go_wp2_with (first | ((with_reducible refine gate_dst (N := 4) rfl ?_); refine Kd.R_lit (Kd.int .u8) _ 5 ?hg (N := 4) ?hd (xs := ([66, 82, 84, 1] : List Int)) (inner := [.int .u8 66, .int .u8 82, .int .u8 84, .int .u8 1]) (ok := fun _ => True) (okp := fun _ => True) ?hr ?hp (fun _ hk => hk) trivial (Below.refl _ _) (Nat.le_refl _) (by simp) ?_; (case hd => rfl); (case hg => rfl); (case hr => first | (go_simp; done) | (go_simp; rfl)); (case hp => exact (Reps.one (show Kd.M (Kd.int .u8) _ _ _ 66 [.int .u8 66] from rfl) (Reps.one (show Kd.M (Kd.int .u8) _ _ _ 82 [.int .u8 82] from rfl) (Reps.one (show Kd.M (Kd.int .u8) _ _ _ 84 [.int .u8 84] from rfl) (Reps.one (show Kd.M (Kd.int .u8) _ _ _ 1 [.int .u8 1] from rfl) (Reps.none _ _)))))); intro v343 w2 ho3 hb hg_ hnew_; clear hg_ hnew_; (first | rw [← Ny342.out] at ho3 | (simp only [Int.reduceToNat] at ho3; rw [← Ny342.out] at ho3)); have n0_ := Aside0.mk (Kd.R_lower ho3 (keep_size (w := w) (g := g) (row := none) (by repeat (first | (with_reducible first | exact HK.out | apply KeepBut.set_ | apply keep_drewN | apply keep_drew | apply keep_alloc) | exact HK.out)))); have n1_ := Aside0.mk (IsS85.below (by repeat (first | (with_reducible first | exact HI0.out | apply IsS85.alloc | apply IsS85.drewN | apply IsS85.drew | apply IsS85.set_1 | apply IsS85.set_2 | apply IsS85.set_3) | exact HI0.out)) hb); have n2_ := Aside0.mk (KeepBut.trans (by repeat (first | (with_reducible first | exact HK.out | apply KeepBut.set_ | apply keep_drewN | apply keep_drew | apply keep_alloc) | exact HK.out)) (KeepBut.of_below hb g none) (.inl rfl)); have n3_ := Aside0.mk (below_step (by repeat (first | (with_reducible first | exact HB.out | apply below_alloc | apply pw_below_drewN | apply below_drew1 | refine below_set ?_ (IsS85.ge HI0.out)) | exact HB.out)) hb); clear HI0; clear HK; clear HB; have HO344 := n0_; have HI0 := n1_; have HK := n2_; have HB := n3_; clear n0_ n1_ n2_ n3_; clear hb ho3)))
 go_loopg [3] k (fun kq v3 w' => ∃ (x3_1 : Int) (x1001_1 : Int) (x1002_1 : Int) (x1003_1 : Int), v3 = .int .i64 x3_1 ∧ Aside0 (berthref20_Reader_head.l0 kq y342 x3_1 s0_0 x1001_1 x1002_1 x1003_1 = some (r1, r2, r3)) ∧ Aside0 (kq ≤ k) ∧ Aside0 (Kd.R (Kd.int .u8) 5 w' w.heap.size (fun _ => True) v343 y342) ∧ Aside0 (IsS85 w0 w' g s0_0 x1001_1 x1002_1 x1003_1) ∧ Aside0 (KeepBut w w' g none) ∧ Aside0 (Below w0.heap.size w0 w'))
 case atStart => exact ⟨(0), (s0_1), (s0_2), (s0_3), (by first | rfl | (simp; done) | (simp [*]; done) | (simp only [i64_w]; done) | (simp [i64_w, Int.tdiv_eq_ediv_of_nonneg]; done)), H', ⟨Nat.le_refl _⟩, ⟨by (with_reducible repeat (first | apply Kd.R_alloc | apply Kd.R_drewN | apply Kd.R_drew)); exact HO344.out⟩, ⟨by repeat (first | (with_reducible first | exact HI0.out | apply IsS85.alloc | apply IsS85.drewN | apply IsS85.drew | apply IsS85.set_1 | apply IsS85.set_2 | apply IsS85.set_3) | exact HI0.out)⟩, ⟨by repeat (first | (with_reducible first | exact HK.out | apply KeepBut.set_ | apply keep_drewN | apply keep_drew | apply keep_alloc) | exact HK.out)⟩, ⟨by repeat (first | (with_reducible first | exact HB.out | apply below_alloc | apply pw_below_drewN | apply below_drew1 | refine below_set ?_ (IsS85.ge HI0.out)) | exact HB.out)⟩⟩
 case round =>
  clear H'
  try clear p2
  obtain ⟨x3_1, x1001_1, x1002_1, x1003_1, rfl, HA, HK1, HO_2, HI0, HK, HB⟩ := hrel
  cases gk with
  | zero => exact absurd HA.out (by simp [berthref20_Reader_head.l0])
  | succ k1 =>
   have H := HA.out
   clear HA
   simp only [berthref20_Reader_head.l0] at H
   by_cases c4 : x3_1 < 4
   ·
    rw [if_pos c4] at H
    have c4b0 : decide (x3_1 < 4) = true := decide_eq_true c4
    clear c4
    by_cases c5 : x3_1 ≥ (s0_0.length : Int)
    ·
     rw [if_pos c5] at H
     have c5b0 : decide ((s0_0.length : Int) ≤ x3_1) = true := decide_eq_true c5
     clear c5
     replace H := Option.bind_eq_some_iff.mp H
     obtain ⟨⟨t345, t346, t347⟩, A60, H⟩ := H
     replace H : (some (t345, t346, t347)) = some (r1, r2, r3) := H
     have A6 := Aside0.mk A60
     clear A60
     simp only [Option.some.injEq, Prod.mk.injEq] at H
     obtain ⟨rfl, rfl, rfl⟩ := H
     obtain ⟨ASz7_0, cSz7_0, HGz7, hgz7, HSz7_0⟩ := HI0.out.old
     have hcz7_0 := cellS85_0 HGz7
     have hcz7_1 := cellS85_1 HGz7
     have hcz7_2 := cellS85_2 HGz7
     have hcz7_3 := cellS85_3 HGz7
     have hfz7_1 := blk_frozen HGz7 1
     have hfz7_2 := blk_frozen HGz7 2
     have hfz7_3 := blk_frozen HGz7 3
     clear HGz7 hgz7
     go_wp2_with (first | (go_at_call 47; (with_reducible refine (berthref20_Reader_fail.calls g s0_0 x1001_1 x1002_1 x1003_1 201 x3_1 t345 t346 t347 w0 _ ?side1 ?side2 A6.out).mono ?_); (case side1 => repeat (first | (with_reducible first | exact HI0.out | apply IsS85.alloc | apply IsS85.drewN | apply IsS85.drew | apply IsS85.set_1 | apply IsS85.set_2 | apply IsS85.set_3) | exact HI0.out)); (case side2 => repeat (first | (with_reducible first | exact HB.out | apply below_alloc | apply pw_below_drewN | apply below_drew1 | refine below_set ?_ (IsS85.ge HI0.out)) | exact HB.out)); rintro e w8 ⟨rfl, hi, hb, hk⟩; have n0_ := Aside0.mk (Kd.R_mono (Kd.R_keep (IsS85.apart (show IsS85 w0 _ g s0_0 x1001_1 x1002_1 x1003_1 from by repeat (first | (with_reducible first | exact HI0.out | apply IsS85.alloc | apply IsS85.drewN | apply IsS85.drew | apply IsS85.set_1 | apply IsS85.set_2 | apply IsS85.set_3) | exact HI0.out)) (by (with_reducible repeat (first | apply Kd.R_alloc | apply Kd.R_drewN | apply Kd.R_drew)); exact HO_2.out) (by decide)) hk (fun _ h => h.2)) (fun _ h => h.1)); have n1_ := Aside0.mk (KeepBut.trans (by repeat (first | (with_reducible first | exact HK.out | apply KeepBut.set_ | apply keep_drewN | apply keep_drew | apply keep_alloc) | exact HK.out)) hk (.inl rfl)); have n2_ := Aside0.mk (hb); have n3_ := Aside0.mk (hi); clear HO_2; clear HK; clear HB; clear HI0; have HO_2 := n0_; have HK := n1_; have HB := n2_; have HI0 := n3_; clear n0_ n1_ n2_ n3_; (try clear hb); (try clear hb2); (try clear hk); (try clear hi)))
     repeat (go_quiet (first | (go_at_call 47; (with_reducible refine (berthref20_Reader_fail.calls g s0_0 x1001_1 x1002_1 x1003_1 201 x3_1 t345 t346 t347 w0 _ ?side1 ?side2 A6.out).mono ?_); (case side1 => repeat (first | (with_reducible first | exact HI0.out | apply IsS85.alloc | apply IsS85.drewN | apply IsS85.drew | apply IsS85.set_1 | apply IsS85.set_2 | apply IsS85.set_3) | exact HI0.out)); (case side2 => repeat (first | (with_reducible first | exact HB.out | apply below_alloc | apply pw_below_drewN | apply below_drew1 | refine below_set ?_ (IsS85.ge HI0.out)) | exact HB.out)); rintro e w8 ⟨rfl, hi, hb, hk⟩; have n0_ := Aside0.mk (Kd.R_mono (Kd.R_keep (IsS85.apart (show IsS85 w0 _ g s0_0 x1001_1 x1002_1 x1003_1 from by repeat (first | (with_reducible first | exact HI0.out | apply IsS85.alloc | apply IsS85.drewN | apply IsS85.drew | apply IsS85.set_1 | apply IsS85.set_2 | apply IsS85.set_3) | exact HI0.out)) (by (with_reducible repeat (first | apply Kd.R_alloc | apply Kd.R_drewN | apply Kd.R_drew)); exact HO_2.out) (by decide)) hk (fun _ h => h.2)) (fun _ h => h.1)); have n1_ := Aside0.mk (KeepBut.trans (by repeat (first | (with_reducible first | exact HK.out | apply KeepBut.set_ | apply keep_drewN | apply keep_drew | apply keep_alloc) | exact HK.out)) hk (.inl rfl)); have n2_ := Aside0.mk (hb); have n3_ := Aside0.mk (hi); clear HO_2; clear HK; clear HB; clear HI0; have HO_2 := n0_; have HK := n1_; have HB := n2_; have HI0 := n3_; clear n0_ n1_ n2_ n3_; (try clear hb); (try clear hb2); (try clear hk); (try clear hi))); try go_wp2_with (first | (go_at_call 47; (with_reducible refine (berthref20_Reader_fail.calls g s0_0 x1001_1 x1002_1 x1003_1 201 x3_1 t345 t346 t347 w0 _ ?side1 ?side2 A6.out).mono ?_); (case side1 => repeat (first | (with_reducible first | exact HI0.out | apply IsS85.alloc | apply IsS85.drewN | apply IsS85.drew | apply IsS85.set_1 | apply IsS85.set_2 | apply IsS85.set_3) | exact HI0.out)); (case side2 => repeat (first | (with_reducible first | exact HB.out | apply below_alloc | apply pw_below_drewN | apply below_drew1 | refine below_set ?_ (IsS85.ge HI0.out)) | exact HB.out)); rintro e w8 ⟨rfl, hi, hb, hk⟩; have n0_ := Aside0.mk (Kd.R_mono (Kd.R_keep (IsS85.apart (show IsS85 w0 _ g s0_0 x1001_1 x1002_1 x1003_1 from by repeat (first | (with_reducible first | exact HI0.out | apply IsS85.alloc | apply IsS85.drewN | apply IsS85.drew | apply IsS85.set_1 | apply IsS85.set_2 | apply IsS85.set_3) | exact HI0.out)) (by (with_reducible repeat (first | apply Kd.R_alloc | apply Kd.R_drewN | apply Kd.R_drew)); exact HO_2.out) (by decide)) hk (fun _ h => h.2)) (fun _ h => h.1)); have n1_ := Aside0.mk (KeepBut.trans (by repeat (first | (with_reducible first | exact HK.out | apply KeepBut.set_ | apply keep_drewN | apply keep_drew | apply keep_alloc) | exact HK.out)) hk (.inl rfl)); have n2_ := Aside0.mk (hb); have n3_ := Aside0.mk (hi); clear HO_2; clear HK; clear HB; clear HI0; have HO_2 := n0_; have HK := n1_; have HB := n2_; have HI0 := n3_; clear n0_ n1_ n2_ n3_; (try clear hb); (try clear hb2); (try clear hk); (try clear hi))))
     first | go_end0 | ((try simp only [Exit.inBlock, Exit.then]); refine bodyPost_ret (results_none rfl _ _ _) rfl ?_)
     exact ⟨by first | rfl | (simp [errW_none, errW_some] <;> rfl) | (simp [*, errW_none, errW_some] <;> rfl), by repeat (first | (with_reducible first | exact HI0.out | apply IsS85.alloc | apply IsS85.drewN | apply IsS85.drew | apply IsS85.set_1 | apply IsS85.set_2 | apply IsS85.set_3) | exact HI0.out), by repeat (first | (with_reducible first | exact HB.out | apply below_alloc | apply pw_below_drewN | apply below_drew1 | refine below_set ?_ (IsS85.ge HI0.out)) | exact HB.out), by repeat (first | (with_reducible first | exact HK.out | apply KeepBut.set_ | apply keep_drewN | apply keep_drew | apply keep_alloc) | exact HK.out)⟩
    ·
     rw [if_neg c5] at H
     have c5b0 : decide ((s0_0.length : Int) ≤ x3_1) = false := decide_eq_false c5
     clear c5
     by_cases c9 : 0 ≤ x3_1
     ·
      rw [if_pos c9] at H
      have c9b0 : decide (0 ≤ x3_1) = true := decide_eq_true c9
      clear c9
      by_cases c10 : x3_1 < (s0_0.length : Int)
      ·
       rw [if_pos c10] at H
       have c10b0 : decide (x3_1 < (s0_0.length : Int)) = true := decide_eq_true c10
       clear c10
       by_cases c11 : x3_1 < (y342.length : Int)
       ·
        rw [if_pos c11] at H
        have c11b0 : decide (x3_1 < (y342.length : Int)) = true := decide_eq_true c11
        clear c11
        by_cases c12 : (rd s0_0 x3_1) = (rd y342 x3_1)
        ·
         rw [if_pos c12] at H
         have c12b0 : ((rd s0_0 x3_1) == (rd y342 x3_1)) = true := beq_iff_eq.mpr c12
         have c12b1 : ((rd s0_0 x3_1) != (rd y342 x3_1)) = false := bne_eq_false_iff_eq.mpr c12
         clear c12
         have H' := Aside0.mk H
         clear H
         obtain ⟨ASz13_0, cSz13_0, HGz13, hgz13, HSz13_0⟩ := HI0.out.old
         have hcz13_0 := cellS85_0 HGz13
         have hcz13_1 := cellS85_1 HGz13
         have hcz13_2 := cellS85_2 HGz13
         have hcz13_3 := cellS85_3 HGz13
         have hfz13_1 := blk_frozen HGz13 1
         have hfz13_2 := blk_frozen HGz13 2
         have hfz13_3 := blk_frozen HGz13 3
         clear HGz13 hgz13
         have p348 : 0 ≤ (x3_1 : Int) := of_decide_eq_true (by first | (with_reducible assumption) | assumption)
         have q348 : x3_1 < (s0_0.length : Int) := of_decide_eq_true (by first | (with_reducible assumption) | assumption)
         obtain ⟨ad348, e348, hx348_0⟩ := Kd.at_int HSz13_0 x3_1 p348 q348
         cases e348
         replace hx348_0 := pw_cell_below HB.out hx348_0
         replace p348 := eq_true p348
         replace q348 := eq_true q348
         obtain ⟨Ao14, co14, eo14⟩ := Kd.R_slice HO_2.out
         subst eo14
         have p349 : 0 ≤ (x3_1 : Int) := of_decide_eq_true (by first | (with_reducible assumption) | assumption)
         have q349 : x3_1 < (y342.length : Int) := of_decide_eq_true (by first | (with_reducible assumption) | assumption)
         obtain ⟨ad349, e349, hx349_0⟩ := Kd.at_int (Kd.R_reads' HO_2.out).2.2 x3_1 p349 q349
         cases e349
         replace p349 := eq_true p349
         replace q349 := eq_true q349
         go_wp2
         repeat (go_quiet (fail); try go_wp2)
         go_roundg k1
         case measure => have := HK1.out; omega
         case rel => exact ⟨(wrap64 (x3_1 + 1)), (x1001_1), (x1002_1), (x1003_1), (by first | rfl | (simp; done) | (simp [*]; done) | (simp only [i64_w]; done) | (simp [i64_w, Int.tdiv_eq_ediv_of_nonneg]; done)), H', ⟨by have := HK1.out; omega⟩, ⟨by (with_reducible repeat (first | apply Kd.R_alloc | apply Kd.R_drewN | apply Kd.R_drew)); exact HO_2.out⟩, ⟨by repeat (first | (with_reducible first | exact HI0.out | apply IsS85.alloc | apply IsS85.drewN | apply IsS85.drew | apply IsS85.set_1 | apply IsS85.set_2 | apply IsS85.set_3) | exact HI0.out)⟩, ⟨by repeat (first | (with_reducible first | exact HK.out | apply KeepBut.set_ | apply keep_drewN | apply keep_drew | apply keep_alloc) | exact HK.out)⟩, ⟨by repeat (first | (with_reducible first | exact HB.out | apply below_alloc | apply pw_below_drewN | apply below_drew1 | refine below_set ?_ (IsS85.ge HI0.out)) | exact HB.out)⟩⟩
        ·
         rw [if_neg c12] at H
         have c12b0 : ((rd s0_0 x3_1) == (rd y342 x3_1)) = false := beq_eq_false_iff_ne.mpr c12
         have c12b1 : ((rd s0_0 x3_1) != (rd y342 x3_1)) = true := bne_iff_ne.mpr c12
         replace H := Option.bind_eq_some_iff.mp H
         obtain ⟨⟨t350, t351, t352⟩, A150, H⟩ := H
         replace H : (some (t350, t351, t352)) = some (r1, r2, r3) := H
         have A15 := Aside0.mk A150
         clear A150
         simp only [Option.some.injEq, Prod.mk.injEq] at H
         obtain ⟨rfl, rfl, rfl⟩ := H
         obtain ⟨ASz16_0, cSz16_0, HGz16, hgz16, HSz16_0⟩ := HI0.out.old
         have hcz16_0 := cellS85_0 HGz16
         have hcz16_1 := cellS85_1 HGz16
         have hcz16_2 := cellS85_2 HGz16
         have hcz16_3 := cellS85_3 HGz16
         have hfz16_1 := blk_frozen HGz16 1
         have hfz16_2 := blk_frozen HGz16 2
         have hfz16_3 := blk_frozen HGz16 3
         clear HGz16 hgz16
         have p348 : 0 ≤ (x3_1 : Int) := of_decide_eq_true (by first | (with_reducible assumption) | assumption)
         have q348 : x3_1 < (s0_0.length : Int) := of_decide_eq_true (by first | (with_reducible assumption) | assumption)
         obtain ⟨ad348, e348, hx348_0⟩ := Kd.at_int HSz16_0 x3_1 p348 q348
         cases e348
         replace hx348_0 := pw_cell_below HB.out hx348_0
         replace p348 := eq_true p348
         replace q348 := eq_true q348
         obtain ⟨Ao17, co17, eo17⟩ := Kd.R_slice HO_2.out
         subst eo17
         have p349 : 0 ≤ (x3_1 : Int) := of_decide_eq_true (by first | (with_reducible assumption) | assumption)
         have q349 : x3_1 < (y342.length : Int) := of_decide_eq_true (by first | (with_reducible assumption) | assumption)
         obtain ⟨ad349, e349, hx349_0⟩ := Kd.at_int (Kd.R_reads' HO_2.out).2.2 x3_1 p349 q349
         cases e349
         replace p349 := eq_true p349
         replace q349 := eq_true q349
         go_wp2_with (first | (go_at_call 47; (with_reducible refine (berthref20_Reader_fail.calls g s0_0 x1001_1 x1002_1 x1003_1 200 x3_1 t350 t351 t352 w0 _ ?side1 ?side2 A15.out).mono ?_); (case side1 => repeat (first | (with_reducible first | exact HI0.out | apply IsS85.alloc | apply IsS85.drewN | apply IsS85.drew | apply IsS85.set_1 | apply IsS85.set_2 | apply IsS85.set_3) | exact HI0.out)); (case side2 => repeat (first | (with_reducible first | exact HB.out | apply below_alloc | apply pw_below_drewN | apply below_drew1 | refine below_set ?_ (IsS85.ge HI0.out)) | exact HB.out)); rintro e w18 ⟨rfl, hi, hb, hk⟩; have n0_ := Aside0.mk (Kd.R_mono (Kd.R_keep (IsS85.apart (show IsS85 w0 _ g s0_0 x1001_1 x1002_1 x1003_1 from by repeat (first | (with_reducible first | exact HI0.out | apply IsS85.alloc | apply IsS85.drewN | apply IsS85.drew | apply IsS85.set_1 | apply IsS85.set_2 | apply IsS85.set_3) | exact HI0.out)) (by (with_reducible repeat (first | apply Kd.R_alloc | apply Kd.R_drewN | apply Kd.R_drew)); exact HO_2.out) (by decide)) hk (fun _ h => h.2)) (fun _ h => h.1)); have n1_ := Aside0.mk (KeepBut.trans (by repeat (first | (with_reducible first | exact HK.out | apply KeepBut.set_ | apply keep_drewN | apply keep_drew | apply keep_alloc) | exact HK.out)) hk (.inl rfl)); have n2_ := Aside0.mk (hb); have n3_ := Aside0.mk (hi); clear HO_2; clear HK; clear HB; clear HI0; have HO_2 := n0_; have HK := n1_; have HB := n2_; have HI0 := n3_; clear n0_ n1_ n2_ n3_; (try clear hb); (try clear hb2); (try clear hk); (try clear hi)))
         repeat (go_quiet (first | (go_at_call 47; (with_reducible refine (berthref20_Reader_fail.calls g s0_0 x1001_1 x1002_1 x1003_1 200 x3_1 t350 t351 t352 w0 _ ?side1 ?side2 A15.out).mono ?_); (case side1 => repeat (first | (with_reducible first | exact HI0.out | apply IsS85.alloc | apply IsS85.drewN | apply IsS85.drew | apply IsS85.set_1 | apply IsS85.set_2 | apply IsS85.set_3) | exact HI0.out)); (case side2 => repeat (first | (with_reducible first | exact HB.out | apply below_alloc | apply pw_below_drewN | apply below_drew1 | refine below_set ?_ (IsS85.ge HI0.out)) | exact HB.out)); rintro e w18 ⟨rfl, hi, hb, hk⟩; have n0_ := Aside0.mk (Kd.R_mono (Kd.R_keep (IsS85.apart (show IsS85 w0 _ g s0_0 x1001_1 x1002_1 x1003_1 from by repeat (first | (with_reducible first | exact HI0.out | apply IsS85.alloc | apply IsS85.drewN | apply IsS85.drew | apply IsS85.set_1 | apply IsS85.set_2 | apply IsS85.set_3) | exact HI0.out)) (by (with_reducible repeat (first | apply Kd.R_alloc | apply Kd.R_drewN | apply Kd.R_drew)); exact HO_2.out) (by decide)) hk (fun _ h => h.2)) (fun _ h => h.1)); have n1_ := Aside0.mk (KeepBut.trans (by repeat (first | (with_reducible first | exact HK.out | apply KeepBut.set_ | apply keep_drewN | apply keep_drew | apply keep_alloc) | exact HK.out)) hk (.inl rfl)); have n2_ := Aside0.mk (hb); have n3_ := Aside0.mk (hi); clear HO_2; clear HK; clear HB; clear HI0; have HO_2 := n0_; have HK := n1_; have HB := n2_; have HI0 := n3_; clear n0_ n1_ n2_ n3_; (try clear hb); (try clear hb2); (try clear hk); (try clear hi))); try go_wp2_with (first | (go_at_call 47; (with_reducible refine (berthref20_Reader_fail.calls g s0_0 x1001_1 x1002_1 x1003_1 200 x3_1 t350 t351 t352 w0 _ ?side1 ?side2 A15.out).mono ?_); (case side1 => repeat (first | (with_reducible first | exact HI0.out | apply IsS85.alloc | apply IsS85.drewN | apply IsS85.drew | apply IsS85.set_1 | apply IsS85.set_2 | apply IsS85.set_3) | exact HI0.out)); (case side2 => repeat (first | (with_reducible first | exact HB.out | apply below_alloc | apply pw_below_drewN | apply below_drew1 | refine below_set ?_ (IsS85.ge HI0.out)) | exact HB.out)); rintro e w18 ⟨rfl, hi, hb, hk⟩; have n0_ := Aside0.mk (Kd.R_mono (Kd.R_keep (IsS85.apart (show IsS85 w0 _ g s0_0 x1001_1 x1002_1 x1003_1 from by repeat (first | (with_reducible first | exact HI0.out | apply IsS85.alloc | apply IsS85.drewN | apply IsS85.drew | apply IsS85.set_1 | apply IsS85.set_2 | apply IsS85.set_3) | exact HI0.out)) (by (with_reducible repeat (first | apply Kd.R_alloc | apply Kd.R_drewN | apply Kd.R_drew)); exact HO_2.out) (by decide)) hk (fun _ h => h.2)) (fun _ h => h.1)); have n1_ := Aside0.mk (KeepBut.trans (by repeat (first | (with_reducible first | exact HK.out | apply KeepBut.set_ | apply keep_drewN | apply keep_drew | apply keep_alloc) | exact HK.out)) hk (.inl rfl)); have n2_ := Aside0.mk (hb); have n3_ := Aside0.mk (hi); clear HO_2; clear HK; clear HB; clear HI0; have HO_2 := n0_; have HK := n1_; have HB := n2_; have HI0 := n3_; clear n0_ n1_ n2_ n3_; (try clear hb); (try clear hb2); (try clear hk); (try clear hi))))
         first | go_end0 | ((try simp only [Exit.inBlock, Exit.then]); refine bodyPost_ret (results_none rfl _ _ _) rfl ?_)
         exact ⟨by first | rfl | (simp [errW_none, errW_some] <;> rfl) | (simp [*, errW_none, errW_some] <;> rfl), by repeat (first | (with_reducible first | exact HI0.out | apply IsS85.alloc | apply IsS85.drewN | apply IsS85.drew | apply IsS85.set_1 | apply IsS85.set_2 | apply IsS85.set_3) | exact HI0.out), by repeat (first | (with_reducible first | exact HB.out | apply below_alloc | apply pw_below_drewN | apply below_drew1 | refine below_set ?_ (IsS85.ge HI0.out)) | exact HB.out), by repeat (first | (with_reducible first | exact HK.out | apply KeepBut.set_ | apply keep_drewN | apply keep_drew | apply keep_alloc) | exact HK.out)⟩
       ·
        rw [if_neg c11] at H
        exact absurd H (by simp)
      ·
       rw [if_neg c10] at H
       exact absurd H (by simp)
     ·
      rw [if_neg c9] at H
      exact absurd H (by simp)
   ·
    rw [if_neg c4] at H
    have c4b0 : decide (x3_1 < 4) = false := decide_eq_false c4
    clear c4
    simp only [Option.some.injEq, Prod.mk.injEq] at H
    obtain ⟨rfl, rfl, rfl⟩ := H
    obtain ⟨ASz19_0, cSz19_0, HGz19, hgz19, HSz19_0⟩ := HI0.out.old
    have hcz19_0 := cellS85_0 HGz19
    have hcz19_1 := cellS85_1 HGz19
    have hcz19_2 := cellS85_2 HGz19
    have hcz19_3 := cellS85_3 HGz19
    have hfz19_1 := blk_frozen HGz19 1
    have hfz19_2 := blk_frozen HGz19 2
    have hfz19_3 := blk_frozen HGz19 3
    clear HGz19 hgz19
    go_wp2
    repeat (go_quiet (fail); try go_wp2)
    first | go_end0 | ((try simp only [Exit.inBlock, Exit.then]); refine bodyPost_ret (results_none rfl _ _ _) rfl ?_)
    exact ⟨by first | rfl | (simp [errW_none, errW_some] <;> rfl) | (simp [*, errW_none, errW_some] <;> rfl), by repeat (first | (with_reducible first | exact HI0.out | apply IsS85.alloc | apply IsS85.drewN | apply IsS85.drew | apply IsS85.set_1 | apply IsS85.set_2 | apply IsS85.set_3) | exact HI0.out), by repeat (first | (with_reducible first | exact HB.out | apply below_alloc | apply pw_below_drewN | apply below_drew1 | refine below_set ?_ (IsS85.ge HI0.out)) | exact HB.out), by repeat (first | (with_reducible first | exact HK.out | apply KeepBut.set_ | apply keep_drewN | apply keep_drew | apply keep_alloc) | exact HK.out)⟩
mutual
def berthref20_Reader_count.l0 : Nat → Int → Int → Int → Int → Int → List Int → Int → Int → Int → Option (Int × Int × Int × Int)
  | 0, _, _, _, _, _, _, _, _, _ => none
  | k + 1, x1, x2, x7, x8, x9, x1000, x1001, x1002, x1003 => if x1001 ≥ (x1000.length : Int) then ((berthref20_Reader_fail.f x1000 x1001 x1002 x1003 201 (x1000.length : Int)).bind fun bt353 => (some (0, bt353.1, bt353.2.1, bt353.2.2))) else (if 0 ≤ x1001 then (if x1001 < (x1000.length : Int) then (if (wrap64 ((wrap64 (x1001 + 1)) - x7)) = 9 then (berthref20_Reader_count.j1 k x1 x2 x7 x8 x9 (wrap64 (rd x1000 x1001)) (decide ((wrap64 (rd x1000 x1001)) ≥ 128)) x1000 (wrap64 (x1001 + 1)) x1002 x1003) else (berthref20_Reader_count.j1 k x1 x2 x7 x8 x9 (wrap64 (rd x1000 x1001)) false x1000 (wrap64 (x1001 + 1)) x1002 x1003)) else (none)) else (none))
def berthref20_Reader_count.j1 : Nat → Int → Int → Int → Int → Int → Int → Bool → List Int → Int → Int → Int → Option (Int × Int × Int × Int)
  | 0, _, _, _, _, _, _, _, _, _, _, _ => none
  | k + 1, x1, x2, x7, x8, x9, x10, x65, x1000, x1001, x1002, x1003 => if x65 = true then ((berthref20_Reader_fail.f x1000 x1001 x1002 x1003 202 x7).bind fun bt357 => (some (0, bt357.1, bt357.2.1, bt357.2.2))) else (if x10 < 128 then (if x10 = 0 then (if (wrap64 (x1001 - x7)) > 1 then ((berthref20_Reader_fail.f x1000 x1001 x1002 x1003 202 x7).bind fun bt360 => (some (0, bt360.1, bt360.2.1, bt360.2.2))) else (if (wrap64 (x8 + (wrap64 ((Int.tmod x10 128) * x9)))) < x1 then ((berthref20_Reader_fail.f x1000 x1001 x1002 x1003 205 x7).bind fun bt363 => (some (0, bt363.1, bt363.2.1, bt363.2.2))) else (if (wrap64 (x8 + (wrap64 ((Int.tmod x10 128) * x9)))) > x2 then ((berthref20_Reader_fail.f x1000 x1001 x1002 x1003 205 x7).bind fun bt366 => (some (0, bt366.1, bt366.2.1, bt366.2.2))) else (some (wrap64 (x8 + (wrap64 ((Int.tmod x10 128) * x9))), x1001, x1002, x1003))))) else (if (wrap64 (x8 + (wrap64 ((Int.tmod x10 128) * x9)))) < x1 then ((berthref20_Reader_fail.f x1000 x1001 x1002 x1003 205 x7).bind fun bt369 => (some (0, bt369.1, bt369.2.1, bt369.2.2))) else (if (wrap64 (x8 + (wrap64 ((Int.tmod x10 128) * x9)))) > x2 then ((berthref20_Reader_fail.f x1000 x1001 x1002 x1003 205 x7).bind fun bt372 => (some (0, bt372.1, bt372.2.1, bt372.2.2))) else (some (wrap64 (x8 + (wrap64 ((Int.tmod x10 128) * x9))), x1001, x1002, x1003))))) else (berthref20_Reader_count.l0 k x1 x2 x7 (wrap64 (x8 + (wrap64 ((Int.tmod x10 128) * x9)))) (wrap64 (x9 * 128)) x1000 x1001 x1002 x1003))
end
def berthref20_Reader_count.f (k : Nat) (s0_0 : List Int) (s0_1 : Int) (s0_2 : Int) (s0_3 : Int) (a1 : Int) (a2 : Int) : Option (Int × Int × Int × Int) := if s0_2 = 0 then (berthref20_Reader_count.l0 k a1 a2 s0_1 0 1 s0_0 s0_1 s0_2 s0_3) else (some (0, s0_1, s0_2, s0_3))
theorem berthref20_Reader_count.mono_l : ∀ k, (∀ y0 y1 y2 y3 y4 y5 y6 y7 y8, LeO (berthref20_Reader_count.l0 k y0 y1 y2 y3 y4 y5 y6 y7 y8) (berthref20_Reader_count.l0 (k + 1) y0 y1 y2 y3 y4 y5 y6 y7 y8)) ∧ (∀ y0 y1 y2 y3 y4 y5 y6 y7 y8 y9 y10, LeO (berthref20_Reader_count.j1 k y0 y1 y2 y3 y4 y5 y6 y7 y8 y9 y10) (berthref20_Reader_count.j1 (k + 1) y0 y1 y2 y3 y4 y5 y6 y7 y8 y9 y10))
  | 0 => ⟨fun _ _ _ _ _ _ _ _ _ r h => by simp [berthref20_Reader_count.l0] at h, fun _ _ _ _ _ _ _ _ _ _ _ r h => by simp [berthref20_Reader_count.j1] at h⟩
  | k + 1 => by
    obtain ⟨ih0, ih1⟩ := berthref20_Reader_count.mono_l k
    refine ⟨?_, ?_⟩
    · intro y0 y1 y2 y3 y4 y5 y6 y7 y8
      unfold berthref20_Reader_count.l0
      repeat' first
      | (with_reducible exact ih0 _ _ _ _ _ _ _ _ _)
      | (with_reducible exact ih1 _ _ _ _ _ _ _ _ _ _ _)
      | (with_reducible exact LeO.refl _)
      | (with_reducible exact LeO.none _)
      | (with_reducible refine LeO.ite ?_ ?_)
      | (with_reducible refine LeO.bind ?_ (fun _ => ?_))
      | exact ih0 _ _ _ _ _ _ _ _ _
      | exact ih1 _ _ _ _ _ _ _ _ _ _ _
      | exact LeO.none _
      | refine LeO.ite ?_ ?_
      | refine LeO.bind ?_ (fun _ => ?_)
    · intro y0 y1 y2 y3 y4 y5 y6 y7 y8 y9 y10
      unfold berthref20_Reader_count.j1
      repeat' first
      | (with_reducible exact ih0 _ _ _ _ _ _ _ _ _)
      | (with_reducible exact ih1 _ _ _ _ _ _ _ _ _ _ _)
      | (with_reducible exact LeO.refl _)
      | (with_reducible exact LeO.none _)
      | (with_reducible refine LeO.ite ?_ ?_)
      | (with_reducible refine LeO.bind ?_ (fun _ => ?_))
      | exact ih0 _ _ _ _ _ _ _ _ _
      | exact ih1 _ _ _ _ _ _ _ _ _ _ _
      | exact LeO.none _
      | refine LeO.ite ?_ ?_
      | refine LeO.bind ?_ (fun _ => ?_)
theorem berthref20_Reader_count.mono : ∀ a0 a1 a2 a3 a4 a5 k, LeO (berthref20_Reader_count.f k a0 a1 a2 a3 a4 a5) (berthref20_Reader_count.f (k + 1) a0 a1 a2 a3 a4 a5) := by
  intro a0 a1 a2 a3 a4 a5 k
  obtain ⟨ih0, ih1⟩ := berthref20_Reader_count.mono_l k
  unfold berthref20_Reader_count.f
  repeat' first
      | (with_reducible exact ih0 _ _ _ _ _ _ _ _ _)
      | (with_reducible exact ih1 _ _ _ _ _ _ _ _ _ _ _)
      | (with_reducible exact LeO.refl _)
      | (with_reducible exact LeO.none _)
      | (with_reducible refine LeO.ite ?_ ?_)
      | (with_reducible refine LeO.bind ?_ (fun _ => ?_))
      | exact ih0 _ _ _ _ _ _ _ _ _
      | exact ih1 _ _ _ _ _ _ _ _ _ _ _
      | exact LeO.none _
      | refine LeO.ite ?_ ?_
      | refine LeO.bind ?_ (fun _ => ?_)
set_option maxHeartbeats 8000000 in
set_option maxRecDepth 100000 in
theorem berthref20_Reader_count.calls (k : Nat) (g : Nat) (s0_0 : List Int) (s0_1 : Int) (s0_2 : Int) (s0_3 : Int) (a1 : Int) (a2 : Int) (r1 : Int) (r2 : Int) (r3 : Int) (r4 : Int) (w0 w : World) (hI : IsS85 w0 w g s0_0 s0_1 s0_2 s0_3) (hB : Below w0.heap.size w0 w) (h : berthref20_Reader_count.f k s0_0 s0_1 s0_2 s0_3 a1 a2 = some (r1, r2, r3, r4)) :
 Calls Try.prog 42 #[.pointer (some ⟨g, 0, none⟩), .int .i64 a1, .int .i64 a2] w fun e w' => e = .returned (.int .i64 r1) ∧ IsS85 w0 w' g s0_0 r2 r3 r4 ∧ Below w0.heap.size w0 w' ∧ KeepBut w w' g none := by
 have HI0 := Aside0.mk hI
 have HK := Aside0.mk (KeepBut.refl w g none)
 have HL := Aside0.mk hB.size
 clear hI
 have HW0 := Aside0.mk hB.size
 have HB := Aside0.mk hB
 clear hB
 have H : (if s0_2 = 0 then (berthref20_Reader_count.l0 k a1 a2 s0_1 0 1 s0_0 s0_1 s0_2 s0_3) else (some (0, s0_1, s0_2, s0_3))) = some (r1, r2, r3, r4) := h
 clear h
 by_cases c4 : s0_2 = 0
 ·
  rw [if_pos c4] at H
  have c4b0 : (s0_2 == 0) = true := beq_iff_eq.mpr c4
  have c4b1 : (s0_2 != 0) = false := bne_eq_false_iff_eq.mpr c4
  clear c4
  have H' := Aside0.mk H
  clear H
  obtain ⟨ASz5_0, cSz5_0, HGz5, hgz5, HSz5_0⟩ := HI0.out.old
  have hcz5_0 := cellS85_0 HGz5
  have hcz5_1 := cellS85_1 HGz5
  have hcz5_2 := cellS85_2 HGz5
  have hcz5_3 := cellS85_3 HGz5
  have hfz5_1 := blk_frozen HGz5 1
  have hfz5_2 := blk_frozen HGz5 2
  have hfz5_3 := blk_frozen HGz5 3
  clear HGz5 hgz5
  go_enter Try.func42, Try.ntmps42
  go_wp2
  repeat (go_quiet (fail); try go_wp2)
  go_loopg [8, 9] k (fun kq v8 v9 w' => ∃ (x8_1 : Int) (x9_1 : Int) (x1001_1 : Int) (x1002_1 : Int) (x1003_1 : Int), v8 = .int .i64 x8_1 ∧ v9 = .int .i64 x9_1 ∧ Aside0 (berthref20_Reader_count.l0 kq a1 a2 s0_1 x8_1 x9_1 s0_0 x1001_1 x1002_1 x1003_1 = some (r1, r2, r3, r4)) ∧ Aside0 (kq ≤ k) ∧ Aside0 (IsS85 w0 w' g s0_0 x1001_1 x1002_1 x1003_1) ∧ Aside0 (KeepBut w w' g none) ∧ Aside0 (Below w0.heap.size w0 w'))
  case atStart => exact ⟨(0), (1), (s0_1), (s0_2), (s0_3), (by first | rfl | (simp; done) | (simp [*]; done) | (simp only [i64_w]; done) | (simp [i64_w, Int.tdiv_eq_ediv_of_nonneg]; done)), (by first | rfl | (simp; done) | (simp [*]; done) | (simp only [i64_w]; done) | (simp [i64_w, Int.tdiv_eq_ediv_of_nonneg]; done)), H', ⟨Nat.le_refl _⟩, ⟨by repeat (first | (with_reducible first | exact HI0.out | apply IsS85.alloc | apply IsS85.drewN | apply IsS85.drew | apply IsS85.set_1 | apply IsS85.set_2 | apply IsS85.set_3) | exact HI0.out)⟩, ⟨by repeat (first | (with_reducible first | exact HK.out | apply KeepBut.set_ | apply keep_drewN | apply keep_drew | apply keep_alloc) | exact HK.out)⟩, ⟨by repeat (first | (with_reducible first | exact HB.out | apply below_alloc | apply pw_below_drewN | apply below_drew1 | refine below_set ?_ (IsS85.ge HI0.out)) | exact HB.out)⟩⟩
  case round =>
   clear H'
   try clear p2
   try clear c4
   try clear c4b0
   try clear c4b1
   try clear hcz5_0
   try clear hcz5_1
   try clear hcz5_2
   try clear hcz5_3
   try clear hfz5_1
   try clear hfz5_2
   try clear hfz5_3
   obtain ⟨x8_1, x9_1, x1001_1, x1002_1, x1003_1, rfl, rfl, HA, HK1, HI0, HK, HB⟩ := hrel
   cases gk with
   | zero => exact absurd HA.out (by simp [berthref20_Reader_count.l0])
   | succ k1 =>
    have H := HA.out
    clear HA
    simp only [berthref20_Reader_count.l0] at H
    by_cases c6 : x1001_1 ≥ (s0_0.length : Int)
    ·
     rw [if_pos c6] at H
     have c6b0 : decide ((s0_0.length : Int) ≤ x1001_1) = true := decide_eq_true c6
     clear c6
     replace H := Option.bind_eq_some_iff.mp H
     obtain ⟨⟨t353, t354, t355⟩, A70, H⟩ := H
     replace H : (some (0, t353, t354, t355)) = some (r1, r2, r3, r4) := H
     have A7 := Aside0.mk A70
     clear A70
     simp only [Option.some.injEq, Prod.mk.injEq] at H
     obtain ⟨rfl, rfl, rfl, rfl⟩ := H
     obtain ⟨ASz8_0, cSz8_0, HGz8, hgz8, HSz8_0⟩ := HI0.out.old
     have hcz8_0 := cellS85_0 HGz8
     have hcz8_1 := cellS85_1 HGz8
     have hcz8_2 := cellS85_2 HGz8
     have hcz8_3 := cellS85_3 HGz8
     have hfz8_1 := blk_frozen HGz8 1
     have hfz8_2 := blk_frozen HGz8 2
     have hfz8_3 := blk_frozen HGz8 3
     clear HGz8 hgz8
     go_wp2_with (first | (go_at_call 47; (with_reducible refine (berthref20_Reader_fail.calls g s0_0 x1001_1 x1002_1 x1003_1 201 (s0_0.length : Int) t353 t354 t355 w0 _ ?side1 ?side2 A7.out).mono ?_); (case side1 => repeat (first | (with_reducible first | exact HI0.out | apply IsS85.alloc | apply IsS85.drewN | apply IsS85.drew | apply IsS85.set_1 | apply IsS85.set_2 | apply IsS85.set_3) | exact HI0.out)); (case side2 => repeat (first | (with_reducible first | exact HB.out | apply below_alloc | apply pw_below_drewN | apply below_drew1 | refine below_set ?_ (IsS85.ge HI0.out)) | exact HB.out)); rintro e w9 ⟨rfl, hi, hb, hk⟩; have n0_ := Aside0.mk (KeepBut.trans (by repeat (first | (with_reducible first | exact HK.out | apply KeepBut.set_ | apply keep_drewN | apply keep_drew | apply keep_alloc) | exact HK.out)) hk (.inl rfl)); have n1_ := Aside0.mk (hb); have n2_ := Aside0.mk (hi); clear HK; clear HB; clear HI0; have HK := n0_; have HB := n1_; have HI0 := n2_; clear n0_ n1_ n2_; (try clear hb); (try clear hb2); (try clear hk); (try clear hi)))
     repeat (go_quiet (first | (go_at_call 47; (with_reducible refine (berthref20_Reader_fail.calls g s0_0 x1001_1 x1002_1 x1003_1 201 (s0_0.length : Int) t353 t354 t355 w0 _ ?side1 ?side2 A7.out).mono ?_); (case side1 => repeat (first | (with_reducible first | exact HI0.out | apply IsS85.alloc | apply IsS85.drewN | apply IsS85.drew | apply IsS85.set_1 | apply IsS85.set_2 | apply IsS85.set_3) | exact HI0.out)); (case side2 => repeat (first | (with_reducible first | exact HB.out | apply below_alloc | apply pw_below_drewN | apply below_drew1 | refine below_set ?_ (IsS85.ge HI0.out)) | exact HB.out)); rintro e w9 ⟨rfl, hi, hb, hk⟩; have n0_ := Aside0.mk (KeepBut.trans (by repeat (first | (with_reducible first | exact HK.out | apply KeepBut.set_ | apply keep_drewN | apply keep_drew | apply keep_alloc) | exact HK.out)) hk (.inl rfl)); have n1_ := Aside0.mk (hb); have n2_ := Aside0.mk (hi); clear HK; clear HB; clear HI0; have HK := n0_; have HB := n1_; have HI0 := n2_; clear n0_ n1_ n2_; (try clear hb); (try clear hb2); (try clear hk); (try clear hi))); try go_wp2_with (first | (go_at_call 47; (with_reducible refine (berthref20_Reader_fail.calls g s0_0 x1001_1 x1002_1 x1003_1 201 (s0_0.length : Int) t353 t354 t355 w0 _ ?side1 ?side2 A7.out).mono ?_); (case side1 => repeat (first | (with_reducible first | exact HI0.out | apply IsS85.alloc | apply IsS85.drewN | apply IsS85.drew | apply IsS85.set_1 | apply IsS85.set_2 | apply IsS85.set_3) | exact HI0.out)); (case side2 => repeat (first | (with_reducible first | exact HB.out | apply below_alloc | apply pw_below_drewN | apply below_drew1 | refine below_set ?_ (IsS85.ge HI0.out)) | exact HB.out)); rintro e w9 ⟨rfl, hi, hb, hk⟩; have n0_ := Aside0.mk (KeepBut.trans (by repeat (first | (with_reducible first | exact HK.out | apply KeepBut.set_ | apply keep_drewN | apply keep_drew | apply keep_alloc) | exact HK.out)) hk (.inl rfl)); have n1_ := Aside0.mk (hb); have n2_ := Aside0.mk (hi); clear HK; clear HB; clear HI0; have HK := n0_; have HB := n1_; have HI0 := n2_; clear n0_ n1_ n2_; (try clear hb); (try clear hb2); (try clear hk); (try clear hi))))
     go_ret
     exact ⟨by first | rfl | (simp [errW_none, errW_some] <;> rfl) | (simp [*, errW_none, errW_some] <;> rfl), by repeat (first | (with_reducible first | exact HI0.out | apply IsS85.alloc | apply IsS85.drewN | apply IsS85.drew | apply IsS85.set_1 | apply IsS85.set_2 | apply IsS85.set_3) | exact HI0.out), by repeat (first | (with_reducible first | exact HB.out | apply below_alloc | apply pw_below_drewN | apply below_drew1 | refine below_set ?_ (IsS85.ge HI0.out)) | exact HB.out), by repeat (first | (with_reducible first | exact HK.out | apply KeepBut.set_ | apply keep_drewN | apply keep_drew | apply keep_alloc) | exact HK.out)⟩
    ·
     rw [if_neg c6] at H
     have c6b0 : decide ((s0_0.length : Int) ≤ x1001_1) = false := decide_eq_false c6
     clear c6
     by_cases c10 : 0 ≤ x1001_1
     ·
      rw [if_pos c10] at H
      have c10b0 : decide (0 ≤ x1001_1) = true := decide_eq_true c10
      clear c10
      by_cases c11 : x1001_1 < (s0_0.length : Int)
      ·
       rw [if_pos c11] at H
       have c11b0 : decide (x1001_1 < (s0_0.length : Int)) = true := decide_eq_true c11
       clear c11
       have HC12 := Aside0.mk H
       clear H
       obtain ⟨ASz13_0, cSz13_0, HGz13, hgz13, HSz13_0⟩ := HI0.out.old
       have hcz13_0 := cellS85_0 HGz13
       have hcz13_1 := cellS85_1 HGz13
       have hcz13_2 := cellS85_2 HGz13
       have hcz13_3 := cellS85_3 HGz13
       have hfz13_1 := blk_frozen HGz13 1
       have hfz13_2 := blk_frozen HGz13 2
       have hfz13_3 := blk_frozen HGz13 3
       clear HGz13 hgz13
       have p356 : 0 ≤ (x1001_1 : Int) := of_decide_eq_true (by first | (with_reducible assumption) | assumption)
       have q356 : x1001_1 < (s0_0.length : Int) := of_decide_eq_true (by first | (with_reducible assumption) | assumption)
       obtain ⟨ad356, e356, hx356_0⟩ := Kd.at_int HSz13_0 x1001_1 p356 q356
       cases e356
       replace hx356_0 := pw_cell_below HB.out hx356_0
       replace p356 := eq_true p356
       replace q356 := eq_true q356
       go_upto_region 10 with (fail)
       repeat (go_quiet (fail); go_upto_region 10 with (fail))
       go_cut [65] (fun v65 wc => ∃ (kq : Nat) (x65_11 : Bool), v65 = .bool x65_11 ∧ Aside0 (berthref20_Reader_count.j1 kq a1 a2 s0_1 x8_1 x9_1 (wrap64 (rd s0_0 x1001_1)) x65_11 s0_0 (wrap64 (x1001_1 + 1)) x1002_1 x1003_1 = some (r1, r2, r3, r4)) ∧ Aside0 (kq ≤ k1) ∧ Aside0 (IsS85 w0 wc g s0_0 (wrap64 (x1001_1 + 1)) x1002_1 x1003_1) ∧ Aside0 (KeepBut w wc g none) ∧ Aside0 (Below w0.heap.size w0 wc))
       case first =>
        have H := HC12.out
        clear HC12
        by_cases c14 : (wrap64 ((wrap64 (x1001_1 + 1)) - s0_1)) = 9
        ·
         rw [if_pos c14] at H
         have c14b0 : ((wrap64 ((wrap64 (x1001_1 + 1)) - s0_1)) == 9) = true := beq_iff_eq.mpr c14
         have c14b1 : ((wrap64 ((wrap64 (x1001_1 + 1)) - s0_1)) != 9) = false := bne_eq_false_iff_eq.mpr c14
         (try (have c14b2 : ((IntKind.i64.wrap ((IntKind.i64.wrap (x1001_1 + 1)) - s0_1)) == 9) = true := by have h_ : ((wrap64 ((wrap64 (x1001_1 + 1)) - s0_1)) == 9) = true := beq_iff_eq.mpr c14; simp only [i64_w]; exact h_))
         (try (have c14b3 : ((IntKind.i64.wrap ((IntKind.i64.wrap (x1001_1 + 1)) - s0_1)) != 9) = false := by have h_ : ((wrap64 ((wrap64 (x1001_1 + 1)) - s0_1)) != 9) = false := bne_eq_false_iff_eq.mpr c14; simp only [i64_w]; exact h_))
         clear c14
         (first | rw [c14b0] | (simp only [i64_w, i32_w]; rw [c14b0]) | skip)
         have H' := Aside0.mk H
         clear H
         obtain ⟨ASz15_0, cSz15_0, HGz15, hgz15, HSz15_0⟩ := HI0.out.old
         have hcz15_0 := cellS85_0 HGz15
         have hcz15_1 := cellS85_1 HGz15
         have hcz15_2 := cellS85_2 HGz15
         have hcz15_3 := cellS85_3 HGz15
         have hfz15_1 := blk_frozen HGz15 1
         have hfz15_2 := blk_frozen HGz15 2
         have hfz15_3 := blk_frozen HGz15 3
         clear HGz15 hgz15
         go_wp2
         repeat (go_quiet (fail); try go_wp2)
         go_meet
         case rel => exact ⟨_, (decide ((wrap64 (rd s0_0 x1001_1)) ≥ 128)), (by first | rfl | (simp; done) | (simp [*]; done) | (simp only [i64_w]; done) | (simp [i64_w, Int.tdiv_eq_ediv_of_nonneg]; done)), H', ⟨by have := HK1.out; first | omega | exact Nat.le_refl _⟩, ⟨by repeat (first | (with_reducible first | exact HI0.out | apply IsS85.alloc | apply IsS85.drewN | apply IsS85.drew | apply IsS85.set_1 | apply IsS85.set_2 | apply IsS85.set_3) | exact HI0.out)⟩, ⟨by repeat (first | (with_reducible first | exact HK.out | apply KeepBut.set_ | apply keep_drewN | apply keep_drew | apply keep_alloc) | exact HK.out)⟩, ⟨by repeat (first | (with_reducible first | exact HB.out | apply below_alloc | apply pw_below_drewN | apply below_drew1 | refine below_set ?_ (IsS85.ge HI0.out)) | exact HB.out)⟩⟩
        ·
         rw [if_neg c14] at H
         have c14b0 : ((wrap64 ((wrap64 (x1001_1 + 1)) - s0_1)) == 9) = false := beq_eq_false_iff_ne.mpr c14
         have c14b1 : ((wrap64 ((wrap64 (x1001_1 + 1)) - s0_1)) != 9) = true := bne_iff_ne.mpr c14
         (try (have c14b2 : ((IntKind.i64.wrap ((IntKind.i64.wrap (x1001_1 + 1)) - s0_1)) == 9) = false := by have h_ : ((wrap64 ((wrap64 (x1001_1 + 1)) - s0_1)) == 9) = false := beq_eq_false_iff_ne.mpr c14; simp only [i64_w]; exact h_))
         (try (have c14b3 : ((IntKind.i64.wrap ((IntKind.i64.wrap (x1001_1 + 1)) - s0_1)) != 9) = true := by have h_ : ((wrap64 ((wrap64 (x1001_1 + 1)) - s0_1)) != 9) = true := bne_iff_ne.mpr c14; simp only [i64_w]; exact h_))
         (first | rw [c14b0] | (simp only [i64_w, i32_w]; rw [c14b0]) | skip)
         have H' := Aside0.mk H
         clear H
         obtain ⟨ASz16_0, cSz16_0, HGz16, hgz16, HSz16_0⟩ := HI0.out.old
         have hcz16_0 := cellS85_0 HGz16
         have hcz16_1 := cellS85_1 HGz16
         have hcz16_2 := cellS85_2 HGz16
         have hcz16_3 := cellS85_3 HGz16
         have hfz16_1 := blk_frozen HGz16 1
         have hfz16_2 := blk_frozen HGz16 2
         have hfz16_3 := blk_frozen HGz16 3
         clear HGz16 hgz16
         go_wp2
         repeat (go_quiet (fail); try go_wp2)
         go_meet
         case rel => exact ⟨_, (false), (by first | rfl | (simp; done) | (simp [*]; done) | (simp only [i64_w]; done) | (simp [i64_w, Int.tdiv_eq_ediv_of_nonneg]; done)), H', ⟨by have := HK1.out; first | omega | exact Nat.le_refl _⟩, ⟨by repeat (first | (with_reducible first | exact HI0.out | apply IsS85.alloc | apply IsS85.drewN | apply IsS85.drew | apply IsS85.set_1 | apply IsS85.set_2 | apply IsS85.set_3) | exact HI0.out)⟩, ⟨by repeat (first | (with_reducible first | exact HK.out | apply KeepBut.set_ | apply keep_drewN | apply keep_drew | apply keep_alloc) | exact HK.out)⟩, ⟨by repeat (first | (with_reducible first | exact HB.out | apply below_alloc | apply pw_below_drewN | apply below_drew1 | refine below_set ?_ (IsS85.ge HI0.out)) | exact HB.out)⟩⟩
       case rest =>
        clear HC12
        try clear c1
        try clear p2
        try clear p3
        try clear q3
        try clear hx3
        try clear c4
        try clear c4b0
        try clear c4b1
        try clear c6
        try clear c6b0
        try clear p6
        try clear c10
        try clear c10b0
        try clear c11
        try clear c11b0
        try clear c14
        try clear c14b0
        try clear c14b1
        try clear c14b2
        try clear hcz13_0
        try clear hcz13_1
        try clear hcz13_2
        try clear hcz13_3
        try clear hcz15_0
        try clear hcz15_1
        try clear hcz15_2
        try clear hcz15_3
        try clear hcz16_0
        try clear hcz16_1
        try clear hcz16_2
        try clear hcz16_3
        try clear hcz5_0
        try clear hcz5_1
        try clear hcz5_2
        try clear hcz5_3
        try clear hcz8_0
        try clear hcz8_1
        try clear hcz8_2
        try clear hcz8_3
        try clear hfz13_1
        try clear hfz13_2
        try clear hfz13_3
        try clear hfz15_1
        try clear hfz15_2
        try clear hfz15_3
        try clear hfz16_1
        try clear hfz16_2
        try clear hfz16_3
        try clear hfz5_1
        try clear hfz5_2
        try clear hfz5_3
        try clear hfz8_1
        try clear hfz8_2
        try clear hfz8_3
        try clear hx356_0
        try clear p2
        try clear p356
        try clear q356
        obtain ⟨kq, x65_11, rfl, HA, HJ11, HI0, HK, HB⟩ := hcut
        cases kq with
        | zero => exact absurd HA.out (by simp [berthref20_Reader_count.j1])
        | succ kj11 =>
         have H := HA.out
         clear HA
         simp only [berthref20_Reader_count.j1] at H
         by_cases c17 : x65_11 = true
         ·
          subst c17
          have H1 : ((berthref20_Reader_fail.f s0_0 (wrap64 (x1001_1 + 1)) x1002_1 x1003_1 202 s0_1).bind fun bt357 => (some (0, bt357.1, bt357.2.1, bt357.2.2))) = some (r1, r2, r3, r4) := by rw [if_pos rfl] at H; exact H
          clear H
          have H := H1
          clear H1
          replace H := Option.bind_eq_some_iff.mp H
          obtain ⟨⟨t357, t358, t359⟩, A180, H⟩ := H
          replace H : (some (0, t357, t358, t359)) = some (r1, r2, r3, r4) := H
          have A18 := Aside0.mk A180
          clear A180
          simp only [Option.some.injEq, Prod.mk.injEq] at H
          obtain ⟨rfl, rfl, rfl, rfl⟩ := H
          go_wp2_with (first | (go_at_call 47; (with_reducible refine (berthref20_Reader_fail.calls g s0_0 (wrap64 (x1001_1 + 1)) x1002_1 x1003_1 202 s0_1 t357 t358 t359 w0 _ ?side1 ?side2 A18.out).mono ?_); (case side1 => repeat (first | (with_reducible first | exact HI0.out | apply IsS85.alloc | apply IsS85.drewN | apply IsS85.drew | apply IsS85.set_1 | apply IsS85.set_2 | apply IsS85.set_3) | exact HI0.out)); (case side2 => repeat (first | (with_reducible first | exact HB.out | apply below_alloc | apply pw_below_drewN | apply below_drew1 | refine below_set ?_ (IsS85.ge HI0.out)) | exact HB.out)); rintro e w19 ⟨rfl, hi, hb, hk⟩; have n0_ := Aside0.mk (KeepBut.trans (by repeat (first | (with_reducible first | exact HK.out | apply KeepBut.set_ | apply keep_drewN | apply keep_drew | apply keep_alloc) | exact HK.out)) hk (.inl rfl)); have n1_ := Aside0.mk (hb); have n2_ := Aside0.mk (hi); clear HK; clear HB; clear HI0; have HK := n0_; have HB := n1_; have HI0 := n2_; clear n0_ n1_ n2_; (try clear hb); (try clear hb2); (try clear hk); (try clear hi)))
          repeat (go_quiet (first | (go_at_call 47; (with_reducible refine (berthref20_Reader_fail.calls g s0_0 (wrap64 (x1001_1 + 1)) x1002_1 x1003_1 202 s0_1 t357 t358 t359 w0 _ ?side1 ?side2 A18.out).mono ?_); (case side1 => repeat (first | (with_reducible first | exact HI0.out | apply IsS85.alloc | apply IsS85.drewN | apply IsS85.drew | apply IsS85.set_1 | apply IsS85.set_2 | apply IsS85.set_3) | exact HI0.out)); (case side2 => repeat (first | (with_reducible first | exact HB.out | apply below_alloc | apply pw_below_drewN | apply below_drew1 | refine below_set ?_ (IsS85.ge HI0.out)) | exact HB.out)); rintro e w19 ⟨rfl, hi, hb, hk⟩; have n0_ := Aside0.mk (KeepBut.trans (by repeat (first | (with_reducible first | exact HK.out | apply KeepBut.set_ | apply keep_drewN | apply keep_drew | apply keep_alloc) | exact HK.out)) hk (.inl rfl)); have n1_ := Aside0.mk (hb); have n2_ := Aside0.mk (hi); clear HK; clear HB; clear HI0; have HK := n0_; have HB := n1_; have HI0 := n2_; clear n0_ n1_ n2_; (try clear hb); (try clear hb2); (try clear hk); (try clear hi))); try go_wp2_with (first | (go_at_call 47; (with_reducible refine (berthref20_Reader_fail.calls g s0_0 (wrap64 (x1001_1 + 1)) x1002_1 x1003_1 202 s0_1 t357 t358 t359 w0 _ ?side1 ?side2 A18.out).mono ?_); (case side1 => repeat (first | (with_reducible first | exact HI0.out | apply IsS85.alloc | apply IsS85.drewN | apply IsS85.drew | apply IsS85.set_1 | apply IsS85.set_2 | apply IsS85.set_3) | exact HI0.out)); (case side2 => repeat (first | (with_reducible first | exact HB.out | apply below_alloc | apply pw_below_drewN | apply below_drew1 | refine below_set ?_ (IsS85.ge HI0.out)) | exact HB.out)); rintro e w19 ⟨rfl, hi, hb, hk⟩; have n0_ := Aside0.mk (KeepBut.trans (by repeat (first | (with_reducible first | exact HK.out | apply KeepBut.set_ | apply keep_drewN | apply keep_drew | apply keep_alloc) | exact HK.out)) hk (.inl rfl)); have n1_ := Aside0.mk (hb); have n2_ := Aside0.mk (hi); clear HK; clear HB; clear HI0; have HK := n0_; have HB := n1_; have HI0 := n2_; clear n0_ n1_ n2_; (try clear hb); (try clear hb2); (try clear hk); (try clear hi))))
          go_ret
          exact ⟨by first | rfl | (simp [errW_none, errW_some] <;> rfl) | (simp [*, errW_none, errW_some] <;> rfl), by repeat (first | (with_reducible first | exact HI0.out | apply IsS85.alloc | apply IsS85.drewN | apply IsS85.drew | apply IsS85.set_1 | apply IsS85.set_2 | apply IsS85.set_3) | exact HI0.out), by repeat (first | (with_reducible first | exact HB.out | apply below_alloc | apply pw_below_drewN | apply below_drew1 | refine below_set ?_ (IsS85.ge HI0.out)) | exact HB.out), by repeat (first | (with_reducible first | exact HK.out | apply KeepBut.set_ | apply keep_drewN | apply keep_drew | apply keep_alloc) | exact HK.out)⟩
         ·
          replace c17 := Bool.eq_false_iff.mpr c17
          subst c17
          have H1 : (if (wrap64 (rd s0_0 x1001_1)) < 128 then (if (wrap64 (rd s0_0 x1001_1)) = 0 then (if (wrap64 ((wrap64 (x1001_1 + 1)) - s0_1)) > 1 then ((berthref20_Reader_fail.f s0_0 (wrap64 (x1001_1 + 1)) x1002_1 x1003_1 202 s0_1).bind fun bt360 => (some (0, bt360.1, bt360.2.1, bt360.2.2))) else (if (wrap64 (x8_1 + (wrap64 ((Int.tmod (wrap64 (rd s0_0 x1001_1)) 128) * x9_1)))) < a1 then ((berthref20_Reader_fail.f s0_0 (wrap64 (x1001_1 + 1)) x1002_1 x1003_1 205 s0_1).bind fun bt363 => (some (0, bt363.1, bt363.2.1, bt363.2.2))) else (if (wrap64 (x8_1 + (wrap64 ((Int.tmod (wrap64 (rd s0_0 x1001_1)) 128) * x9_1)))) > a2 then ((berthref20_Reader_fail.f s0_0 (wrap64 (x1001_1 + 1)) x1002_1 x1003_1 205 s0_1).bind fun bt366 => (some (0, bt366.1, bt366.2.1, bt366.2.2))) else (some (wrap64 (x8_1 + (wrap64 ((Int.tmod (wrap64 (rd s0_0 x1001_1)) 128) * x9_1))), (wrap64 (x1001_1 + 1)), x1002_1, x1003_1))))) else (if (wrap64 (x8_1 + (wrap64 ((Int.tmod (wrap64 (rd s0_0 x1001_1)) 128) * x9_1)))) < a1 then ((berthref20_Reader_fail.f s0_0 (wrap64 (x1001_1 + 1)) x1002_1 x1003_1 205 s0_1).bind fun bt369 => (some (0, bt369.1, bt369.2.1, bt369.2.2))) else (if (wrap64 (x8_1 + (wrap64 ((Int.tmod (wrap64 (rd s0_0 x1001_1)) 128) * x9_1)))) > a2 then ((berthref20_Reader_fail.f s0_0 (wrap64 (x1001_1 + 1)) x1002_1 x1003_1 205 s0_1).bind fun bt372 => (some (0, bt372.1, bt372.2.1, bt372.2.2))) else (some (wrap64 (x8_1 + (wrap64 ((Int.tmod (wrap64 (rd s0_0 x1001_1)) 128) * x9_1))), (wrap64 (x1001_1 + 1)), x1002_1, x1003_1))))) else (berthref20_Reader_count.l0 kj11 a1 a2 s0_1 (wrap64 (x8_1 + (wrap64 ((Int.tmod (wrap64 (rd s0_0 x1001_1)) 128) * x9_1)))) (wrap64 (x9_1 * 128)) s0_0 (wrap64 (x1001_1 + 1)) x1002_1 x1003_1)) = some (r1, r2, r3, r4) := by rw [if_neg (show ¬ (false = true) by decide)] at H; exact H
          clear H
          have H := H1
          clear H1
          by_cases c20 : (wrap64 (rd s0_0 x1001_1)) < 128
          ·
           rw [if_pos c20] at H
           have c20b0 : decide ((wrap64 (rd s0_0 x1001_1)) < 128) = true := decide_eq_true c20
           (try (have c20b1 : decide ((IntKind.i64.wrap (rd s0_0 x1001_1)) < 128) = true := by have h_ : decide ((wrap64 (rd s0_0 x1001_1)) < 128) = true := decide_eq_true c20; simp only [i64_w]; exact h_))
           clear c20
           by_cases c21 : (wrap64 (rd s0_0 x1001_1)) = 0
           ·
            rw [if_pos c21] at H
            have c21b0 : ((wrap64 (rd s0_0 x1001_1)) == 0) = true := beq_iff_eq.mpr c21
            have c21b1 : ((wrap64 (rd s0_0 x1001_1)) != 0) = false := bne_eq_false_iff_eq.mpr c21
            (try (have c21b2 : ((IntKind.i64.wrap (rd s0_0 x1001_1)) == 0) = true := by have h_ : ((wrap64 (rd s0_0 x1001_1)) == 0) = true := beq_iff_eq.mpr c21; simp only [i64_w]; exact h_))
            (try (have c21b3 : ((IntKind.i64.wrap (rd s0_0 x1001_1)) != 0) = false := by have h_ : ((wrap64 (rd s0_0 x1001_1)) != 0) = false := bne_eq_false_iff_eq.mpr c21; simp only [i64_w]; exact h_))
            clear c21
            by_cases c22 : (wrap64 ((wrap64 (x1001_1 + 1)) - s0_1)) > 1
            ·
             rw [if_pos c22] at H
             have c22b0 : decide (1 < (wrap64 ((wrap64 (x1001_1 + 1)) - s0_1))) = true := decide_eq_true c22
             (try (have c22b1 : decide (1 < (IntKind.i64.wrap ((IntKind.i64.wrap (x1001_1 + 1)) - s0_1))) = true := by have h_ : decide (1 < (wrap64 ((wrap64 (x1001_1 + 1)) - s0_1))) = true := decide_eq_true c22; simp only [i64_w]; exact h_))
             clear c22
             replace H := Option.bind_eq_some_iff.mp H
             obtain ⟨⟨t360, t361, t362⟩, A230, H⟩ := H
             replace H : (some (0, t360, t361, t362)) = some (r1, r2, r3, r4) := H
             have A23 := Aside0.mk A230
             clear A230
             simp only [Option.some.injEq, Prod.mk.injEq] at H
             obtain ⟨rfl, rfl, rfl, rfl⟩ := H
             obtain ⟨ASz24_0, cSz24_0, HGz24, hgz24, HSz24_0⟩ := HI0.out.old
             have hcz24_0 := cellS85_0 HGz24
             have hcz24_1 := cellS85_1 HGz24
             have hcz24_2 := cellS85_2 HGz24
             have hcz24_3 := cellS85_3 HGz24
             have hfz24_1 := blk_frozen HGz24 1
             have hfz24_2 := blk_frozen HGz24 2
             have hfz24_3 := blk_frozen HGz24 3
             clear HGz24 hgz24
             go_wp2_with (first | (go_at_call 47; (with_reducible refine (berthref20_Reader_fail.calls g s0_0 (wrap64 (x1001_1 + 1)) x1002_1 x1003_1 202 s0_1 t360 t361 t362 w0 _ ?side1 ?side2 A23.out).mono ?_); (case side1 => repeat (first | (with_reducible first | exact HI0.out | apply IsS85.alloc | apply IsS85.drewN | apply IsS85.drew | apply IsS85.set_1 | apply IsS85.set_2 | apply IsS85.set_3) | exact HI0.out)); (case side2 => repeat (first | (with_reducible first | exact HB.out | apply below_alloc | apply pw_below_drewN | apply below_drew1 | refine below_set ?_ (IsS85.ge HI0.out)) | exact HB.out)); rintro e w25 ⟨rfl, hi, hb, hk⟩; have n0_ := Aside0.mk (KeepBut.trans (by repeat (first | (with_reducible first | exact HK.out | apply KeepBut.set_ | apply keep_drewN | apply keep_drew | apply keep_alloc) | exact HK.out)) hk (.inl rfl)); have n1_ := Aside0.mk (hb); have n2_ := Aside0.mk (hi); clear HK; clear HB; clear HI0; have HK := n0_; have HB := n1_; have HI0 := n2_; clear n0_ n1_ n2_; (try clear hb); (try clear hb2); (try clear hk); (try clear hi)))
             repeat (go_quiet (first | (go_at_call 47; (with_reducible refine (berthref20_Reader_fail.calls g s0_0 (wrap64 (x1001_1 + 1)) x1002_1 x1003_1 202 s0_1 t360 t361 t362 w0 _ ?side1 ?side2 A23.out).mono ?_); (case side1 => repeat (first | (with_reducible first | exact HI0.out | apply IsS85.alloc | apply IsS85.drewN | apply IsS85.drew | apply IsS85.set_1 | apply IsS85.set_2 | apply IsS85.set_3) | exact HI0.out)); (case side2 => repeat (first | (with_reducible first | exact HB.out | apply below_alloc | apply pw_below_drewN | apply below_drew1 | refine below_set ?_ (IsS85.ge HI0.out)) | exact HB.out)); rintro e w25 ⟨rfl, hi, hb, hk⟩; have n0_ := Aside0.mk (KeepBut.trans (by repeat (first | (with_reducible first | exact HK.out | apply KeepBut.set_ | apply keep_drewN | apply keep_drew | apply keep_alloc) | exact HK.out)) hk (.inl rfl)); have n1_ := Aside0.mk (hb); have n2_ := Aside0.mk (hi); clear HK; clear HB; clear HI0; have HK := n0_; have HB := n1_; have HI0 := n2_; clear n0_ n1_ n2_; (try clear hb); (try clear hb2); (try clear hk); (try clear hi))); try go_wp2_with (first | (go_at_call 47; (with_reducible refine (berthref20_Reader_fail.calls g s0_0 (wrap64 (x1001_1 + 1)) x1002_1 x1003_1 202 s0_1 t360 t361 t362 w0 _ ?side1 ?side2 A23.out).mono ?_); (case side1 => repeat (first | (with_reducible first | exact HI0.out | apply IsS85.alloc | apply IsS85.drewN | apply IsS85.drew | apply IsS85.set_1 | apply IsS85.set_2 | apply IsS85.set_3) | exact HI0.out)); (case side2 => repeat (first | (with_reducible first | exact HB.out | apply below_alloc | apply pw_below_drewN | apply below_drew1 | refine below_set ?_ (IsS85.ge HI0.out)) | exact HB.out)); rintro e w25 ⟨rfl, hi, hb, hk⟩; have n0_ := Aside0.mk (KeepBut.trans (by repeat (first | (with_reducible first | exact HK.out | apply KeepBut.set_ | apply keep_drewN | apply keep_drew | apply keep_alloc) | exact HK.out)) hk (.inl rfl)); have n1_ := Aside0.mk (hb); have n2_ := Aside0.mk (hi); clear HK; clear HB; clear HI0; have HK := n0_; have HB := n1_; have HI0 := n2_; clear n0_ n1_ n2_; (try clear hb); (try clear hb2); (try clear hk); (try clear hi))))
             go_ret
             exact ⟨by first | rfl | (simp [errW_none, errW_some] <;> rfl) | (simp [*, errW_none, errW_some] <;> rfl), by repeat (first | (with_reducible first | exact HI0.out | apply IsS85.alloc | apply IsS85.drewN | apply IsS85.drew | apply IsS85.set_1 | apply IsS85.set_2 | apply IsS85.set_3) | exact HI0.out), by repeat (first | (with_reducible first | exact HB.out | apply below_alloc | apply pw_below_drewN | apply below_drew1 | refine below_set ?_ (IsS85.ge HI0.out)) | exact HB.out), by repeat (first | (with_reducible first | exact HK.out | apply KeepBut.set_ | apply keep_drewN | apply keep_drew | apply keep_alloc) | exact HK.out)⟩
            ·
             rw [if_neg c22] at H
             have c22b0 : decide (1 < (wrap64 ((wrap64 (x1001_1 + 1)) - s0_1))) = false := decide_eq_false c22
             (try (have c22b1 : decide (1 < (IntKind.i64.wrap ((IntKind.i64.wrap (x1001_1 + 1)) - s0_1))) = false := by have h_ : decide (1 < (wrap64 ((wrap64 (x1001_1 + 1)) - s0_1))) = false := decide_eq_false c22; simp only [i64_w]; exact h_))
             clear c22
             by_cases c26 : (wrap64 (x8_1 + (wrap64 ((Int.tmod (wrap64 (rd s0_0 x1001_1)) 128) * x9_1)))) < a1
             ·
              rw [if_pos c26] at H
              have c26b0 : decide ((wrap64 (x8_1 + (wrap64 ((Int.tmod (wrap64 (rd s0_0 x1001_1)) 128) * x9_1)))) < a1) = true := decide_eq_true c26
              (try (have c26b1 : decide ((IntKind.i64.wrap (x8_1 + (IntKind.i64.wrap ((Int.tmod (IntKind.i64.wrap (rd s0_0 x1001_1)) 128) * x9_1)))) < a1) = true := by have h_ : decide ((wrap64 (x8_1 + (wrap64 ((Int.tmod (wrap64 (rd s0_0 x1001_1)) 128) * x9_1)))) < a1) = true := decide_eq_true c26; simp only [i64_w]; exact h_))
              clear c26
              replace H := Option.bind_eq_some_iff.mp H
              obtain ⟨⟨t363, t364, t365⟩, A270, H⟩ := H
              replace H : (some (0, t363, t364, t365)) = some (r1, r2, r3, r4) := H
              have A27 := Aside0.mk A270
              clear A270
              simp only [Option.some.injEq, Prod.mk.injEq] at H
              obtain ⟨rfl, rfl, rfl, rfl⟩ := H
              obtain ⟨ASz28_0, cSz28_0, HGz28, hgz28, HSz28_0⟩ := HI0.out.old
              have hcz28_0 := cellS85_0 HGz28
              have hcz28_1 := cellS85_1 HGz28
              have hcz28_2 := cellS85_2 HGz28
              have hcz28_3 := cellS85_3 HGz28
              have hfz28_1 := blk_frozen HGz28 1
              have hfz28_2 := blk_frozen HGz28 2
              have hfz28_3 := blk_frozen HGz28 3
              clear HGz28 hgz28
              go_wp2_with (first | (go_at_call 47; (with_reducible refine (berthref20_Reader_fail.calls g s0_0 (wrap64 (x1001_1 + 1)) x1002_1 x1003_1 205 s0_1 t363 t364 t365 w0 _ ?side1 ?side2 A27.out).mono ?_); (case side1 => repeat (first | (with_reducible first | exact HI0.out | apply IsS85.alloc | apply IsS85.drewN | apply IsS85.drew | apply IsS85.set_1 | apply IsS85.set_2 | apply IsS85.set_3) | exact HI0.out)); (case side2 => repeat (first | (with_reducible first | exact HB.out | apply below_alloc | apply pw_below_drewN | apply below_drew1 | refine below_set ?_ (IsS85.ge HI0.out)) | exact HB.out)); rintro e w29 ⟨rfl, hi, hb, hk⟩; have n0_ := Aside0.mk (KeepBut.trans (by repeat (first | (with_reducible first | exact HK.out | apply KeepBut.set_ | apply keep_drewN | apply keep_drew | apply keep_alloc) | exact HK.out)) hk (.inl rfl)); have n1_ := Aside0.mk (hb); have n2_ := Aside0.mk (hi); clear HK; clear HB; clear HI0; have HK := n0_; have HB := n1_; have HI0 := n2_; clear n0_ n1_ n2_; (try clear hb); (try clear hb2); (try clear hk); (try clear hi)))
              repeat (go_quiet (first | (go_at_call 47; (with_reducible refine (berthref20_Reader_fail.calls g s0_0 (wrap64 (x1001_1 + 1)) x1002_1 x1003_1 205 s0_1 t363 t364 t365 w0 _ ?side1 ?side2 A27.out).mono ?_); (case side1 => repeat (first | (with_reducible first | exact HI0.out | apply IsS85.alloc | apply IsS85.drewN | apply IsS85.drew | apply IsS85.set_1 | apply IsS85.set_2 | apply IsS85.set_3) | exact HI0.out)); (case side2 => repeat (first | (with_reducible first | exact HB.out | apply below_alloc | apply pw_below_drewN | apply below_drew1 | refine below_set ?_ (IsS85.ge HI0.out)) | exact HB.out)); rintro e w29 ⟨rfl, hi, hb, hk⟩; have n0_ := Aside0.mk (KeepBut.trans (by repeat (first | (with_reducible first | exact HK.out | apply KeepBut.set_ | apply keep_drewN | apply keep_drew | apply keep_alloc) | exact HK.out)) hk (.inl rfl)); have n1_ := Aside0.mk (hb); have n2_ := Aside0.mk (hi); clear HK; clear HB; clear HI0; have HK := n0_; have HB := n1_; have HI0 := n2_; clear n0_ n1_ n2_; (try clear hb); (try clear hb2); (try clear hk); (try clear hi))); try go_wp2_with (first | (go_at_call 47; (with_reducible refine (berthref20_Reader_fail.calls g s0_0 (wrap64 (x1001_1 + 1)) x1002_1 x1003_1 205 s0_1 t363 t364 t365 w0 _ ?side1 ?side2 A27.out).mono ?_); (case side1 => repeat (first | (with_reducible first | exact HI0.out | apply IsS85.alloc | apply IsS85.drewN | apply IsS85.drew | apply IsS85.set_1 | apply IsS85.set_2 | apply IsS85.set_3) | exact HI0.out)); (case side2 => repeat (first | (with_reducible first | exact HB.out | apply below_alloc | apply pw_below_drewN | apply below_drew1 | refine below_set ?_ (IsS85.ge HI0.out)) | exact HB.out)); rintro e w29 ⟨rfl, hi, hb, hk⟩; have n0_ := Aside0.mk (KeepBut.trans (by repeat (first | (with_reducible first | exact HK.out | apply KeepBut.set_ | apply keep_drewN | apply keep_drew | apply keep_alloc) | exact HK.out)) hk (.inl rfl)); have n1_ := Aside0.mk (hb); have n2_ := Aside0.mk (hi); clear HK; clear HB; clear HI0; have HK := n0_; have HB := n1_; have HI0 := n2_; clear n0_ n1_ n2_; (try clear hb); (try clear hb2); (try clear hk); (try clear hi))))
              go_ret
              exact ⟨by first | rfl | (simp [errW_none, errW_some] <;> rfl) | (simp [*, errW_none, errW_some] <;> rfl), by repeat (first | (with_reducible first | exact HI0.out | apply IsS85.alloc | apply IsS85.drewN | apply IsS85.drew | apply IsS85.set_1 | apply IsS85.set_2 | apply IsS85.set_3) | exact HI0.out), by repeat (first | (with_reducible first | exact HB.out | apply below_alloc | apply pw_below_drewN | apply below_drew1 | refine below_set ?_ (IsS85.ge HI0.out)) | exact HB.out), by repeat (first | (with_reducible first | exact HK.out | apply KeepBut.set_ | apply keep_drewN | apply keep_drew | apply keep_alloc) | exact HK.out)⟩
             ·
              rw [if_neg c26] at H
              have c26b0 : decide ((wrap64 (x8_1 + (wrap64 ((Int.tmod (wrap64 (rd s0_0 x1001_1)) 128) * x9_1)))) < a1) = false := decide_eq_false c26
              (try (have c26b1 : decide ((IntKind.i64.wrap (x8_1 + (IntKind.i64.wrap ((Int.tmod (IntKind.i64.wrap (rd s0_0 x1001_1)) 128) * x9_1)))) < a1) = false := by have h_ : decide ((wrap64 (x8_1 + (wrap64 ((Int.tmod (wrap64 (rd s0_0 x1001_1)) 128) * x9_1)))) < a1) = false := decide_eq_false c26; simp only [i64_w]; exact h_))
              clear c26
              by_cases c30 : (wrap64 (x8_1 + (wrap64 ((Int.tmod (wrap64 (rd s0_0 x1001_1)) 128) * x9_1)))) > a2
              ·
               rw [if_pos c30] at H
               have c30b0 : decide (a2 < (wrap64 (x8_1 + (wrap64 ((Int.tmod (wrap64 (rd s0_0 x1001_1)) 128) * x9_1))))) = true := decide_eq_true c30
               (try (have c30b1 : decide (a2 < (IntKind.i64.wrap (x8_1 + (IntKind.i64.wrap ((Int.tmod (IntKind.i64.wrap (rd s0_0 x1001_1)) 128) * x9_1))))) = true := by have h_ : decide (a2 < (wrap64 (x8_1 + (wrap64 ((Int.tmod (wrap64 (rd s0_0 x1001_1)) 128) * x9_1))))) = true := decide_eq_true c30; simp only [i64_w]; exact h_))
               clear c30
               replace H := Option.bind_eq_some_iff.mp H
               obtain ⟨⟨t366, t367, t368⟩, A310, H⟩ := H
               replace H : (some (0, t366, t367, t368)) = some (r1, r2, r3, r4) := H
               have A31 := Aside0.mk A310
               clear A310
               simp only [Option.some.injEq, Prod.mk.injEq] at H
               obtain ⟨rfl, rfl, rfl, rfl⟩ := H
               obtain ⟨ASz32_0, cSz32_0, HGz32, hgz32, HSz32_0⟩ := HI0.out.old
               have hcz32_0 := cellS85_0 HGz32
               have hcz32_1 := cellS85_1 HGz32
               have hcz32_2 := cellS85_2 HGz32
               have hcz32_3 := cellS85_3 HGz32
               have hfz32_1 := blk_frozen HGz32 1
               have hfz32_2 := blk_frozen HGz32 2
               have hfz32_3 := blk_frozen HGz32 3
               clear HGz32 hgz32
               go_wp2_with (first | (go_at_call 47; (with_reducible refine (berthref20_Reader_fail.calls g s0_0 (wrap64 (x1001_1 + 1)) x1002_1 x1003_1 205 s0_1 t366 t367 t368 w0 _ ?side1 ?side2 A31.out).mono ?_); (case side1 => repeat (first | (with_reducible first | exact HI0.out | apply IsS85.alloc | apply IsS85.drewN | apply IsS85.drew | apply IsS85.set_1 | apply IsS85.set_2 | apply IsS85.set_3) | exact HI0.out)); (case side2 => repeat (first | (with_reducible first | exact HB.out | apply below_alloc | apply pw_below_drewN | apply below_drew1 | refine below_set ?_ (IsS85.ge HI0.out)) | exact HB.out)); rintro e w33 ⟨rfl, hi, hb, hk⟩; have n0_ := Aside0.mk (KeepBut.trans (by repeat (first | (with_reducible first | exact HK.out | apply KeepBut.set_ | apply keep_drewN | apply keep_drew | apply keep_alloc) | exact HK.out)) hk (.inl rfl)); have n1_ := Aside0.mk (hb); have n2_ := Aside0.mk (hi); clear HK; clear HB; clear HI0; have HK := n0_; have HB := n1_; have HI0 := n2_; clear n0_ n1_ n2_; (try clear hb); (try clear hb2); (try clear hk); (try clear hi)))
               repeat (go_quiet (first | (go_at_call 47; (with_reducible refine (berthref20_Reader_fail.calls g s0_0 (wrap64 (x1001_1 + 1)) x1002_1 x1003_1 205 s0_1 t366 t367 t368 w0 _ ?side1 ?side2 A31.out).mono ?_); (case side1 => repeat (first | (with_reducible first | exact HI0.out | apply IsS85.alloc | apply IsS85.drewN | apply IsS85.drew | apply IsS85.set_1 | apply IsS85.set_2 | apply IsS85.set_3) | exact HI0.out)); (case side2 => repeat (first | (with_reducible first | exact HB.out | apply below_alloc | apply pw_below_drewN | apply below_drew1 | refine below_set ?_ (IsS85.ge HI0.out)) | exact HB.out)); rintro e w33 ⟨rfl, hi, hb, hk⟩; have n0_ := Aside0.mk (KeepBut.trans (by repeat (first | (with_reducible first | exact HK.out | apply KeepBut.set_ | apply keep_drewN | apply keep_drew | apply keep_alloc) | exact HK.out)) hk (.inl rfl)); have n1_ := Aside0.mk (hb); have n2_ := Aside0.mk (hi); clear HK; clear HB; clear HI0; have HK := n0_; have HB := n1_; have HI0 := n2_; clear n0_ n1_ n2_; (try clear hb); (try clear hb2); (try clear hk); (try clear hi))); try go_wp2_with (first | (go_at_call 47; (with_reducible refine (berthref20_Reader_fail.calls g s0_0 (wrap64 (x1001_1 + 1)) x1002_1 x1003_1 205 s0_1 t366 t367 t368 w0 _ ?side1 ?side2 A31.out).mono ?_); (case side1 => repeat (first | (with_reducible first | exact HI0.out | apply IsS85.alloc | apply IsS85.drewN | apply IsS85.drew | apply IsS85.set_1 | apply IsS85.set_2 | apply IsS85.set_3) | exact HI0.out)); (case side2 => repeat (first | (with_reducible first | exact HB.out | apply below_alloc | apply pw_below_drewN | apply below_drew1 | refine below_set ?_ (IsS85.ge HI0.out)) | exact HB.out)); rintro e w33 ⟨rfl, hi, hb, hk⟩; have n0_ := Aside0.mk (KeepBut.trans (by repeat (first | (with_reducible first | exact HK.out | apply KeepBut.set_ | apply keep_drewN | apply keep_drew | apply keep_alloc) | exact HK.out)) hk (.inl rfl)); have n1_ := Aside0.mk (hb); have n2_ := Aside0.mk (hi); clear HK; clear HB; clear HI0; have HK := n0_; have HB := n1_; have HI0 := n2_; clear n0_ n1_ n2_; (try clear hb); (try clear hb2); (try clear hk); (try clear hi))))
               go_ret
               exact ⟨by first | rfl | (simp [errW_none, errW_some] <;> rfl) | (simp [*, errW_none, errW_some] <;> rfl), by repeat (first | (with_reducible first | exact HI0.out | apply IsS85.alloc | apply IsS85.drewN | apply IsS85.drew | apply IsS85.set_1 | apply IsS85.set_2 | apply IsS85.set_3) | exact HI0.out), by repeat (first | (with_reducible first | exact HB.out | apply below_alloc | apply pw_below_drewN | apply below_drew1 | refine below_set ?_ (IsS85.ge HI0.out)) | exact HB.out), by repeat (first | (with_reducible first | exact HK.out | apply KeepBut.set_ | apply keep_drewN | apply keep_drew | apply keep_alloc) | exact HK.out)⟩
              ·
               rw [if_neg c30] at H
               have c30b0 : decide (a2 < (wrap64 (x8_1 + (wrap64 ((Int.tmod (wrap64 (rd s0_0 x1001_1)) 128) * x9_1))))) = false := decide_eq_false c30
               (try (have c30b1 : decide (a2 < (IntKind.i64.wrap (x8_1 + (IntKind.i64.wrap ((Int.tmod (IntKind.i64.wrap (rd s0_0 x1001_1)) 128) * x9_1))))) = false := by have h_ : decide (a2 < (wrap64 (x8_1 + (wrap64 ((Int.tmod (wrap64 (rd s0_0 x1001_1)) 128) * x9_1))))) = false := decide_eq_false c30; simp only [i64_w]; exact h_))
               clear c30
               simp only [Option.some.injEq, Prod.mk.injEq] at H
               obtain ⟨rfl, rfl, rfl, rfl⟩ := H
               obtain ⟨ASz34_0, cSz34_0, HGz34, hgz34, HSz34_0⟩ := HI0.out.old
               have hcz34_0 := cellS85_0 HGz34
               have hcz34_1 := cellS85_1 HGz34
               have hcz34_2 := cellS85_2 HGz34
               have hcz34_3 := cellS85_3 HGz34
               have hfz34_1 := blk_frozen HGz34 1
               have hfz34_2 := blk_frozen HGz34 2
               have hfz34_3 := blk_frozen HGz34 3
               clear HGz34 hgz34
               go_wp2
               repeat (go_quiet (fail); try go_wp2)
               go_ret
               exact ⟨by first | rfl | (simp [errW_none, errW_some] <;> rfl) | (simp [*, errW_none, errW_some] <;> rfl), by repeat (first | (with_reducible first | exact HI0.out | apply IsS85.alloc | apply IsS85.drewN | apply IsS85.drew | apply IsS85.set_1 | apply IsS85.set_2 | apply IsS85.set_3) | exact HI0.out), by repeat (first | (with_reducible first | exact HB.out | apply below_alloc | apply pw_below_drewN | apply below_drew1 | refine below_set ?_ (IsS85.ge HI0.out)) | exact HB.out), by repeat (first | (with_reducible first | exact HK.out | apply KeepBut.set_ | apply keep_drewN | apply keep_drew | apply keep_alloc) | exact HK.out)⟩
           ·
            rw [if_neg c21] at H
            have c21b0 : ((wrap64 (rd s0_0 x1001_1)) == 0) = false := beq_eq_false_iff_ne.mpr c21
            have c21b1 : ((wrap64 (rd s0_0 x1001_1)) != 0) = true := bne_iff_ne.mpr c21
            (try (have c21b2 : ((IntKind.i64.wrap (rd s0_0 x1001_1)) == 0) = false := by have h_ : ((wrap64 (rd s0_0 x1001_1)) == 0) = false := beq_eq_false_iff_ne.mpr c21; simp only [i64_w]; exact h_))
            (try (have c21b3 : ((IntKind.i64.wrap (rd s0_0 x1001_1)) != 0) = true := by have h_ : ((wrap64 (rd s0_0 x1001_1)) != 0) = true := bne_iff_ne.mpr c21; simp only [i64_w]; exact h_))
            by_cases c35 : (wrap64 (x8_1 + (wrap64 ((Int.tmod (wrap64 (rd s0_0 x1001_1)) 128) * x9_1)))) < a1
            ·
             rw [if_pos c35] at H
             have c35b0 : decide ((wrap64 (x8_1 + (wrap64 ((Int.tmod (wrap64 (rd s0_0 x1001_1)) 128) * x9_1)))) < a1) = true := decide_eq_true c35
             (try (have c35b1 : decide ((IntKind.i64.wrap (x8_1 + (IntKind.i64.wrap ((Int.tmod (IntKind.i64.wrap (rd s0_0 x1001_1)) 128) * x9_1)))) < a1) = true := by have h_ : decide ((wrap64 (x8_1 + (wrap64 ((Int.tmod (wrap64 (rd s0_0 x1001_1)) 128) * x9_1)))) < a1) = true := decide_eq_true c35; simp only [i64_w]; exact h_))
             clear c35
             replace H := Option.bind_eq_some_iff.mp H
             obtain ⟨⟨t369, t370, t371⟩, A360, H⟩ := H
             replace H : (some (0, t369, t370, t371)) = some (r1, r2, r3, r4) := H
             have A36 := Aside0.mk A360
             clear A360
             simp only [Option.some.injEq, Prod.mk.injEq] at H
             obtain ⟨rfl, rfl, rfl, rfl⟩ := H
             go_wp2_with (first | (go_at_call 47; (with_reducible refine (berthref20_Reader_fail.calls g s0_0 (wrap64 (x1001_1 + 1)) x1002_1 x1003_1 205 s0_1 t369 t370 t371 w0 _ ?side1 ?side2 A36.out).mono ?_); (case side1 => repeat (first | (with_reducible first | exact HI0.out | apply IsS85.alloc | apply IsS85.drewN | apply IsS85.drew | apply IsS85.set_1 | apply IsS85.set_2 | apply IsS85.set_3) | exact HI0.out)); (case side2 => repeat (first | (with_reducible first | exact HB.out | apply below_alloc | apply pw_below_drewN | apply below_drew1 | refine below_set ?_ (IsS85.ge HI0.out)) | exact HB.out)); rintro e w37 ⟨rfl, hi, hb, hk⟩; have n0_ := Aside0.mk (KeepBut.trans (by repeat (first | (with_reducible first | exact HK.out | apply KeepBut.set_ | apply keep_drewN | apply keep_drew | apply keep_alloc) | exact HK.out)) hk (.inl rfl)); have n1_ := Aside0.mk (hb); have n2_ := Aside0.mk (hi); clear HK; clear HB; clear HI0; have HK := n0_; have HB := n1_; have HI0 := n2_; clear n0_ n1_ n2_; (try clear hb); (try clear hb2); (try clear hk); (try clear hi)))
             repeat (go_quiet (first | (go_at_call 47; (with_reducible refine (berthref20_Reader_fail.calls g s0_0 (wrap64 (x1001_1 + 1)) x1002_1 x1003_1 205 s0_1 t369 t370 t371 w0 _ ?side1 ?side2 A36.out).mono ?_); (case side1 => repeat (first | (with_reducible first | exact HI0.out | apply IsS85.alloc | apply IsS85.drewN | apply IsS85.drew | apply IsS85.set_1 | apply IsS85.set_2 | apply IsS85.set_3) | exact HI0.out)); (case side2 => repeat (first | (with_reducible first | exact HB.out | apply below_alloc | apply pw_below_drewN | apply below_drew1 | refine below_set ?_ (IsS85.ge HI0.out)) | exact HB.out)); rintro e w37 ⟨rfl, hi, hb, hk⟩; have n0_ := Aside0.mk (KeepBut.trans (by repeat (first | (with_reducible first | exact HK.out | apply KeepBut.set_ | apply keep_drewN | apply keep_drew | apply keep_alloc) | exact HK.out)) hk (.inl rfl)); have n1_ := Aside0.mk (hb); have n2_ := Aside0.mk (hi); clear HK; clear HB; clear HI0; have HK := n0_; have HB := n1_; have HI0 := n2_; clear n0_ n1_ n2_; (try clear hb); (try clear hb2); (try clear hk); (try clear hi))); try go_wp2_with (first | (go_at_call 47; (with_reducible refine (berthref20_Reader_fail.calls g s0_0 (wrap64 (x1001_1 + 1)) x1002_1 x1003_1 205 s0_1 t369 t370 t371 w0 _ ?side1 ?side2 A36.out).mono ?_); (case side1 => repeat (first | (with_reducible first | exact HI0.out | apply IsS85.alloc | apply IsS85.drewN | apply IsS85.drew | apply IsS85.set_1 | apply IsS85.set_2 | apply IsS85.set_3) | exact HI0.out)); (case side2 => repeat (first | (with_reducible first | exact HB.out | apply below_alloc | apply pw_below_drewN | apply below_drew1 | refine below_set ?_ (IsS85.ge HI0.out)) | exact HB.out)); rintro e w37 ⟨rfl, hi, hb, hk⟩; have n0_ := Aside0.mk (KeepBut.trans (by repeat (first | (with_reducible first | exact HK.out | apply KeepBut.set_ | apply keep_drewN | apply keep_drew | apply keep_alloc) | exact HK.out)) hk (.inl rfl)); have n1_ := Aside0.mk (hb); have n2_ := Aside0.mk (hi); clear HK; clear HB; clear HI0; have HK := n0_; have HB := n1_; have HI0 := n2_; clear n0_ n1_ n2_; (try clear hb); (try clear hb2); (try clear hk); (try clear hi))))
             go_ret
             exact ⟨by first | rfl | (simp [errW_none, errW_some] <;> rfl) | (simp [*, errW_none, errW_some] <;> rfl), by repeat (first | (with_reducible first | exact HI0.out | apply IsS85.alloc | apply IsS85.drewN | apply IsS85.drew | apply IsS85.set_1 | apply IsS85.set_2 | apply IsS85.set_3) | exact HI0.out), by repeat (first | (with_reducible first | exact HB.out | apply below_alloc | apply pw_below_drewN | apply below_drew1 | refine below_set ?_ (IsS85.ge HI0.out)) | exact HB.out), by repeat (first | (with_reducible first | exact HK.out | apply KeepBut.set_ | apply keep_drewN | apply keep_drew | apply keep_alloc) | exact HK.out)⟩
            ·
             rw [if_neg c35] at H
             have c35b0 : decide ((wrap64 (x8_1 + (wrap64 ((Int.tmod (wrap64 (rd s0_0 x1001_1)) 128) * x9_1)))) < a1) = false := decide_eq_false c35
             (try (have c35b1 : decide ((IntKind.i64.wrap (x8_1 + (IntKind.i64.wrap ((Int.tmod (IntKind.i64.wrap (rd s0_0 x1001_1)) 128) * x9_1)))) < a1) = false := by have h_ : decide ((wrap64 (x8_1 + (wrap64 ((Int.tmod (wrap64 (rd s0_0 x1001_1)) 128) * x9_1)))) < a1) = false := decide_eq_false c35; simp only [i64_w]; exact h_))
             clear c35
             by_cases c38 : (wrap64 (x8_1 + (wrap64 ((Int.tmod (wrap64 (rd s0_0 x1001_1)) 128) * x9_1)))) > a2
             ·
              rw [if_pos c38] at H
              have c38b0 : decide (a2 < (wrap64 (x8_1 + (wrap64 ((Int.tmod (wrap64 (rd s0_0 x1001_1)) 128) * x9_1))))) = true := decide_eq_true c38
              (try (have c38b1 : decide (a2 < (IntKind.i64.wrap (x8_1 + (IntKind.i64.wrap ((Int.tmod (IntKind.i64.wrap (rd s0_0 x1001_1)) 128) * x9_1))))) = true := by have h_ : decide (a2 < (wrap64 (x8_1 + (wrap64 ((Int.tmod (wrap64 (rd s0_0 x1001_1)) 128) * x9_1))))) = true := decide_eq_true c38; simp only [i64_w]; exact h_))
              clear c38
              replace H := Option.bind_eq_some_iff.mp H
              obtain ⟨⟨t372, t373, t374⟩, A390, H⟩ := H
              replace H : (some (0, t372, t373, t374)) = some (r1, r2, r3, r4) := H
              have A39 := Aside0.mk A390
              clear A390
              simp only [Option.some.injEq, Prod.mk.injEq] at H
              obtain ⟨rfl, rfl, rfl, rfl⟩ := H
              go_wp2_with (first | (go_at_call 47; (with_reducible refine (berthref20_Reader_fail.calls g s0_0 (wrap64 (x1001_1 + 1)) x1002_1 x1003_1 205 s0_1 t372 t373 t374 w0 _ ?side1 ?side2 A39.out).mono ?_); (case side1 => repeat (first | (with_reducible first | exact HI0.out | apply IsS85.alloc | apply IsS85.drewN | apply IsS85.drew | apply IsS85.set_1 | apply IsS85.set_2 | apply IsS85.set_3) | exact HI0.out)); (case side2 => repeat (first | (with_reducible first | exact HB.out | apply below_alloc | apply pw_below_drewN | apply below_drew1 | refine below_set ?_ (IsS85.ge HI0.out)) | exact HB.out)); rintro e w40 ⟨rfl, hi, hb, hk⟩; have n0_ := Aside0.mk (KeepBut.trans (by repeat (first | (with_reducible first | exact HK.out | apply KeepBut.set_ | apply keep_drewN | apply keep_drew | apply keep_alloc) | exact HK.out)) hk (.inl rfl)); have n1_ := Aside0.mk (hb); have n2_ := Aside0.mk (hi); clear HK; clear HB; clear HI0; have HK := n0_; have HB := n1_; have HI0 := n2_; clear n0_ n1_ n2_; (try clear hb); (try clear hb2); (try clear hk); (try clear hi)))
              repeat (go_quiet (first | (go_at_call 47; (with_reducible refine (berthref20_Reader_fail.calls g s0_0 (wrap64 (x1001_1 + 1)) x1002_1 x1003_1 205 s0_1 t372 t373 t374 w0 _ ?side1 ?side2 A39.out).mono ?_); (case side1 => repeat (first | (with_reducible first | exact HI0.out | apply IsS85.alloc | apply IsS85.drewN | apply IsS85.drew | apply IsS85.set_1 | apply IsS85.set_2 | apply IsS85.set_3) | exact HI0.out)); (case side2 => repeat (first | (with_reducible first | exact HB.out | apply below_alloc | apply pw_below_drewN | apply below_drew1 | refine below_set ?_ (IsS85.ge HI0.out)) | exact HB.out)); rintro e w40 ⟨rfl, hi, hb, hk⟩; have n0_ := Aside0.mk (KeepBut.trans (by repeat (first | (with_reducible first | exact HK.out | apply KeepBut.set_ | apply keep_drewN | apply keep_drew | apply keep_alloc) | exact HK.out)) hk (.inl rfl)); have n1_ := Aside0.mk (hb); have n2_ := Aside0.mk (hi); clear HK; clear HB; clear HI0; have HK := n0_; have HB := n1_; have HI0 := n2_; clear n0_ n1_ n2_; (try clear hb); (try clear hb2); (try clear hk); (try clear hi))); try go_wp2_with (first | (go_at_call 47; (with_reducible refine (berthref20_Reader_fail.calls g s0_0 (wrap64 (x1001_1 + 1)) x1002_1 x1003_1 205 s0_1 t372 t373 t374 w0 _ ?side1 ?side2 A39.out).mono ?_); (case side1 => repeat (first | (with_reducible first | exact HI0.out | apply IsS85.alloc | apply IsS85.drewN | apply IsS85.drew | apply IsS85.set_1 | apply IsS85.set_2 | apply IsS85.set_3) | exact HI0.out)); (case side2 => repeat (first | (with_reducible first | exact HB.out | apply below_alloc | apply pw_below_drewN | apply below_drew1 | refine below_set ?_ (IsS85.ge HI0.out)) | exact HB.out)); rintro e w40 ⟨rfl, hi, hb, hk⟩; have n0_ := Aside0.mk (KeepBut.trans (by repeat (first | (with_reducible first | exact HK.out | apply KeepBut.set_ | apply keep_drewN | apply keep_drew | apply keep_alloc) | exact HK.out)) hk (.inl rfl)); have n1_ := Aside0.mk (hb); have n2_ := Aside0.mk (hi); clear HK; clear HB; clear HI0; have HK := n0_; have HB := n1_; have HI0 := n2_; clear n0_ n1_ n2_; (try clear hb); (try clear hb2); (try clear hk); (try clear hi))))
              go_ret
              exact ⟨by first | rfl | (simp [errW_none, errW_some] <;> rfl) | (simp [*, errW_none, errW_some] <;> rfl), by repeat (first | (with_reducible first | exact HI0.out | apply IsS85.alloc | apply IsS85.drewN | apply IsS85.drew | apply IsS85.set_1 | apply IsS85.set_2 | apply IsS85.set_3) | exact HI0.out), by repeat (first | (with_reducible first | exact HB.out | apply below_alloc | apply pw_below_drewN | apply below_drew1 | refine below_set ?_ (IsS85.ge HI0.out)) | exact HB.out), by repeat (first | (with_reducible first | exact HK.out | apply KeepBut.set_ | apply keep_drewN | apply keep_drew | apply keep_alloc) | exact HK.out)⟩
             ·
              rw [if_neg c38] at H
              have c38b0 : decide (a2 < (wrap64 (x8_1 + (wrap64 ((Int.tmod (wrap64 (rd s0_0 x1001_1)) 128) * x9_1))))) = false := decide_eq_false c38
              (try (have c38b1 : decide (a2 < (IntKind.i64.wrap (x8_1 + (IntKind.i64.wrap ((Int.tmod (IntKind.i64.wrap (rd s0_0 x1001_1)) 128) * x9_1))))) = false := by have h_ : decide (a2 < (wrap64 (x8_1 + (wrap64 ((Int.tmod (wrap64 (rd s0_0 x1001_1)) 128) * x9_1))))) = false := decide_eq_false c38; simp only [i64_w]; exact h_))
              clear c38
              simp only [Option.some.injEq, Prod.mk.injEq] at H
              obtain ⟨rfl, rfl, rfl, rfl⟩ := H
              go_wp2
              repeat (go_quiet (fail); try go_wp2)
              go_ret
              exact ⟨by first | rfl | (simp [errW_none, errW_some] <;> rfl) | (simp [*, errW_none, errW_some] <;> rfl), by repeat (first | (with_reducible first | exact HI0.out | apply IsS85.alloc | apply IsS85.drewN | apply IsS85.drew | apply IsS85.set_1 | apply IsS85.set_2 | apply IsS85.set_3) | exact HI0.out), by repeat (first | (with_reducible first | exact HB.out | apply below_alloc | apply pw_below_drewN | apply below_drew1 | refine below_set ?_ (IsS85.ge HI0.out)) | exact HB.out), by repeat (first | (with_reducible first | exact HK.out | apply KeepBut.set_ | apply keep_drewN | apply keep_drew | apply keep_alloc) | exact HK.out)⟩
          ·
           rw [if_neg c20] at H
           have c20b0 : decide ((wrap64 (rd s0_0 x1001_1)) < 128) = false := decide_eq_false c20
           (try (have c20b1 : decide ((IntKind.i64.wrap (rd s0_0 x1001_1)) < 128) = false := by have h_ : decide ((wrap64 (rd s0_0 x1001_1)) < 128) = false := decide_eq_false c20; simp only [i64_w]; exact h_))
           clear c20
           have H' := Aside0.mk H
           clear H
           go_wp2
           repeat (go_quiet (fail); try go_wp2)
           go_roundg kj11
           case measure => have := HK1.out; have := HJ11.out; omega
           case rel => exact ⟨(wrap64 (x8_1 + (wrap64 ((Int.tmod (wrap64 (rd s0_0 x1001_1)) 128) * x9_1)))), (wrap64 (x9_1 * 128)), ((wrap64 (x1001_1 + 1))), (x1002_1), (x1003_1), (by first | rfl | (simp; done) | (simp [*]; done) | (simp only [i64_w]; done) | (simp [i64_w, Int.tdiv_eq_ediv_of_nonneg]; done)), (by first | rfl | (simp; done) | (simp [*]; done) | (simp only [i64_w]; done) | (simp [i64_w, Int.tdiv_eq_ediv_of_nonneg]; done)), H', ⟨by have := HK1.out; have := HJ11.out; omega⟩, ⟨by repeat (first | (with_reducible first | exact HI0.out | apply IsS85.alloc | apply IsS85.drewN | apply IsS85.drew | apply IsS85.set_1 | apply IsS85.set_2 | apply IsS85.set_3) | exact HI0.out)⟩, ⟨by repeat (first | (with_reducible first | exact HK.out | apply KeepBut.set_ | apply keep_drewN | apply keep_drew | apply keep_alloc) | exact HK.out)⟩, ⟨by repeat (first | (with_reducible first | exact HB.out | apply below_alloc | apply pw_below_drewN | apply below_drew1 | refine below_set ?_ (IsS85.ge HI0.out)) | exact HB.out)⟩⟩
      ·
       rw [if_neg c11] at H
       exact absurd H (by simp)
     ·
      rw [if_neg c10] at H
      exact absurd H (by simp)
 ·
  rw [if_neg c4] at H
  have c4b0 : (s0_2 == 0) = false := beq_eq_false_iff_ne.mpr c4
  have c4b1 : (s0_2 != 0) = true := bne_iff_ne.mpr c4
  simp only [Option.some.injEq, Prod.mk.injEq] at H
  obtain ⟨rfl, rfl, rfl, rfl⟩ := H
  obtain ⟨ASz41_0, cSz41_0, HGz41, hgz41, HSz41_0⟩ := HI0.out.old
  have hcz41_0 := cellS85_0 HGz41
  have hcz41_1 := cellS85_1 HGz41
  have hcz41_2 := cellS85_2 HGz41
  have hcz41_3 := cellS85_3 HGz41
  have hfz41_1 := blk_frozen HGz41 1
  have hfz41_2 := blk_frozen HGz41 2
  have hfz41_3 := blk_frozen HGz41 3
  clear HGz41 hgz41
  go_enter Try.func42, Try.ntmps42
  go_wp2
  repeat (go_quiet (fail); try go_wp2)
  go_ret
  exact ⟨by first | rfl | (simp [errW_none, errW_some] <;> rfl) | (simp [*, errW_none, errW_some] <;> rfl), by repeat (first | (with_reducible first | exact HI0.out | apply IsS85.alloc | apply IsS85.drewN | apply IsS85.drew | apply IsS85.set_1 | apply IsS85.set_2 | apply IsS85.set_3) | exact HI0.out), by repeat (first | (with_reducible first | exact HB.out | apply below_alloc | apply pw_below_drewN | apply below_drew1 | refine below_set ?_ (IsS85.ge HI0.out)) | exact HB.out), by repeat (first | (with_reducible first | exact HK.out | apply KeepBut.set_ | apply keep_drewN | apply keep_drew | apply keep_alloc) | exact HK.out)⟩
def berthref20_Reader_signed.f (k : Nat) (s0_0 : List Int) (s0_1 : Int) (s0_2 : Int) (s0_3 : Int) : Option (Int × Int × Int × Int) := (berthref20_Reader_count.f k s0_0 s0_1 s0_2 s0_3 0 2000000000000000000).bind fun bt385 => (if (Int.tmod bt385.1 2) = 0 then (some (wrap64 (Int.tdiv bt385.1 2), bt385.2.1, bt385.2.2.1, bt385.2.2.2)) else (some (wrap64 ((wrap64 (-(wrap64 (Int.tdiv bt385.1 2)))) - 1), bt385.2.1, bt385.2.2.1, bt385.2.2.2)))
theorem berthref20_Reader_signed.mono : ∀ a0 a1 a2 a3 k, LeO (berthref20_Reader_signed.f k a0 a1 a2 a3) (berthref20_Reader_signed.f (k + 1) a0 a1 a2 a3) := by
  intro a0 a1 a2 a3 k
  unfold berthref20_Reader_signed.f
  repeat' first
      | (with_reducible exact berthref20_Reader_count.mono _ _ _ _ _ _ _)
      | (with_reducible exact LeO.refl _)
      | (with_reducible exact LeO.none _)
      | (with_reducible refine LeO.ite ?_ ?_)
      | (with_reducible refine LeO.bind ?_ (fun _ => ?_))
      | exact berthref20_Reader_count.mono _ _ _ _ _ _ _
      | exact LeO.none _
      | refine LeO.ite ?_ ?_
      | refine LeO.bind ?_ (fun _ => ?_)
set_option maxHeartbeats 8000000 in
set_option maxRecDepth 100000 in
theorem berthref20_Reader_signed.calls (k : Nat) (g : Nat) (s0_0 : List Int) (s0_1 : Int) (s0_2 : Int) (s0_3 : Int) (r1 : Int) (r2 : Int) (r3 : Int) (r4 : Int) (w0 w : World) (hI : IsS85 w0 w g s0_0 s0_1 s0_2 s0_3) (hB : Below w0.heap.size w0 w) (h : berthref20_Reader_signed.f k s0_0 s0_1 s0_2 s0_3 = some (r1, r2, r3, r4)) :
 Calls Try.prog 70 #[.pointer (some ⟨g, 0, none⟩)] w fun e w' => e = .returned (.int .i64 r1) ∧ IsS85 w0 w' g s0_0 r2 r3 r4 ∧ Below w0.heap.size w0 w' ∧ KeepBut w w' g none := by
 have HI0 := Aside0.mk hI
 have HK := Aside0.mk (KeepBut.refl w g none)
 have HL := Aside0.mk hB.size
 clear hI
 have HW0 := Aside0.mk hB.size
 have HB := Aside0.mk hB
 clear hB
 have H : ((berthref20_Reader_count.f k s0_0 s0_1 s0_2 s0_3 0 2000000000000000000).bind fun bt385 => (if (Int.tmod bt385.1 2) = 0 then (some (wrap64 (Int.tdiv bt385.1 2), bt385.2.1, bt385.2.2.1, bt385.2.2.2)) else (some (wrap64 ((wrap64 (-(wrap64 (Int.tdiv bt385.1 2)))) - 1), bt385.2.1, bt385.2.2.1, bt385.2.2.2)))) = some (r1, r2, r3, r4) := h
 clear h
 replace H := Option.bind_eq_some_iff.mp H
 obtain ⟨⟨t385, t386, t387, t388⟩, A20, H⟩ := H
 replace H : (if (Int.tmod t385 2) = 0 then (some (wrap64 (Int.tdiv t385 2), t386, t387, t388)) else (some (wrap64 ((wrap64 (-(wrap64 (Int.tdiv t385 2)))) - 1), t386, t387, t388))) = some (r1, r2, r3, r4) := H
 have A2 := Aside0.mk A20
 clear A20
 by_cases c3 : (Int.tmod t385 2) = 0
 ·
  rw [if_pos c3] at H
  have c3b0 : ((Int.tmod t385 2) == 0) = true := beq_iff_eq.mpr c3
  have c3b1 : ((Int.tmod t385 2) != 0) = false := bne_eq_false_iff_eq.mpr c3
  clear c3
  simp only [Option.some.injEq, Prod.mk.injEq] at H
  obtain ⟨rfl, rfl, rfl, rfl⟩ := H
  go_enter Try.func70, Try.ntmps70
  go_wp2_with (first | ((with_reducible refine gate_callee (f := 42) rfl ?_); refine goesL_ (some 5) rfl rfl Try.func42 (by kernel_rfl) rfl #[.pointer (some ⟨g, 0, none⟩), .int .i64 0, .int .i64 2000000000000000000] rfl (by (try simp only [List.map_toArray, List.map_cons, List.map_nil]); first | done | rfl | (simp only [List.length_drop, List.length_take]; rfl)) ?_; (with_reducible refine (berthref20_Reader_count.calls k g s0_0 s0_1 s0_2 s0_3 0 2000000000000000000 t385 t386 t387 t388 w0 _ ?side1 ?side2 A2.out).mono ?_); (case side1 => repeat (first | (with_reducible first | exact HI0.out | apply IsS85.alloc | apply IsS85.drewN | apply IsS85.drew | apply IsS85.set_1 | apply IsS85.set_2 | apply IsS85.set_3) | exact HI0.out)); (case side2 => repeat (first | (with_reducible first | exact HB.out | apply below_alloc | apply pw_below_drewN | apply below_drew1 | refine below_set ?_ (IsS85.ge HI0.out)) | exact HB.out)); rintro e w4 ⟨rfl, hi, hb, hk⟩; refine ⟨_, rfl, ?_⟩; have n0_ := Aside0.mk (KeepBut.trans (by repeat (first | (with_reducible first | exact HK.out | apply KeepBut.set_ | apply keep_drewN | apply keep_drew | apply keep_alloc) | exact HK.out)) hk (.inl rfl)); have n1_ := Aside0.mk (hb); have n2_ := Aside0.mk (hi); clear HK; clear HB; clear HI0; have HK := n0_; have HB := n1_; have HI0 := n2_; clear n0_ n1_ n2_; (try clear hb); (try clear hb2); (try clear hk); (try clear hi)))
  go_ret
  exact ⟨by first | rfl | (simp [errW_none, errW_some] <;> rfl) | (simp [*, errW_none, errW_some] <;> rfl), by repeat (first | (with_reducible first | exact HI0.out | apply IsS85.alloc | apply IsS85.drewN | apply IsS85.drew | apply IsS85.set_1 | apply IsS85.set_2 | apply IsS85.set_3) | exact HI0.out), by repeat (first | (with_reducible first | exact HB.out | apply below_alloc | apply pw_below_drewN | apply below_drew1 | refine below_set ?_ (IsS85.ge HI0.out)) | exact HB.out), by repeat (first | (with_reducible first | exact HK.out | apply KeepBut.set_ | apply keep_drewN | apply keep_drew | apply keep_alloc) | exact HK.out)⟩
 ·
  rw [if_neg c3] at H
  have c3b0 : ((Int.tmod t385 2) == 0) = false := beq_eq_false_iff_ne.mpr c3
  have c3b1 : ((Int.tmod t385 2) != 0) = true := bne_iff_ne.mpr c3
  simp only [Option.some.injEq, Prod.mk.injEq] at H
  obtain ⟨rfl, rfl, rfl, rfl⟩ := H
  go_enter Try.func70, Try.ntmps70
  go_wp2_with (first | ((with_reducible refine gate_callee (f := 42) rfl ?_); refine goesL_ (some 5) rfl rfl Try.func42 (by kernel_rfl) rfl #[.pointer (some ⟨g, 0, none⟩), .int .i64 0, .int .i64 2000000000000000000] rfl (by (try simp only [List.map_toArray, List.map_cons, List.map_nil]); first | done | rfl | (simp only [List.length_drop, List.length_take]; rfl)) ?_; (with_reducible refine (berthref20_Reader_count.calls k g s0_0 s0_1 s0_2 s0_3 0 2000000000000000000 t385 t386 t387 t388 w0 _ ?side1 ?side2 A2.out).mono ?_); (case side1 => repeat (first | (with_reducible first | exact HI0.out | apply IsS85.alloc | apply IsS85.drewN | apply IsS85.drew | apply IsS85.set_1 | apply IsS85.set_2 | apply IsS85.set_3) | exact HI0.out)); (case side2 => repeat (first | (with_reducible first | exact HB.out | apply below_alloc | apply pw_below_drewN | apply below_drew1 | refine below_set ?_ (IsS85.ge HI0.out)) | exact HB.out)); rintro e w5 ⟨rfl, hi, hb, hk⟩; refine ⟨_, rfl, ?_⟩; have n0_ := Aside0.mk (KeepBut.trans (by repeat (first | (with_reducible first | exact HK.out | apply KeepBut.set_ | apply keep_drewN | apply keep_drew | apply keep_alloc) | exact HK.out)) hk (.inl rfl)); have n1_ := Aside0.mk (hb); have n2_ := Aside0.mk (hi); clear HK; clear HB; clear HI0; have HK := n0_; have HB := n1_; have HI0 := n2_; clear n0_ n1_ n2_; (try clear hb); (try clear hb2); (try clear hk); (try clear hi)))
  go_ret
  exact ⟨by first | rfl | (simp [errW_none, errW_some] <;> rfl) | (simp [*, errW_none, errW_some] <;> rfl), by repeat (first | (with_reducible first | exact HI0.out | apply IsS85.alloc | apply IsS85.drewN | apply IsS85.drew | apply IsS85.set_1 | apply IsS85.set_2 | apply IsS85.set_3) | exact HI0.out), by repeat (first | (with_reducible first | exact HB.out | apply below_alloc | apply pw_below_drewN | apply below_drew1 | refine below_set ?_ (IsS85.ge HI0.out)) | exact HB.out), by repeat (first | (with_reducible first | exact HK.out | apply KeepBut.set_ | apply keep_drewN | apply keep_drew | apply keep_alloc) | exact HK.out)⟩
end Go.Proofs.Ytlocnfkkfpfpfaa.Six
