/- CodeBack: its walk. -/
import Derived.Test.YtlocnfkkfpfpfaazCBm29
namespace Go.Proofs.Ytlocnfkkfpfpfaa.D
open Go.RowKit Go.Proofs.YtlocnfkkfpfpfaaW.PrintWords Go.Proofs.YtlocnfkkfpfpfaaW.PrintLast Go.Proofs.YtlocnfkkfpfpfaaW.PrintMore Go.Proofs.Ytlocnfkkfpfpfaa.Six
set_option linter.unusedSimpArgs false
set_option linter.unusedVariables false
structure InBox (w W : World) (X : Nat) (A0 A1 A2 A3 A4 : Option Addr) (c0 c1 c2 c3 c4 : Nat) (g : Pg) : Prop where
  below : Below w.heap.size w W
  box : W.heap[X]? = some (.cells #[.slice A0 g.T.length c0, .slice A1 g.N.length c1, .slice A2 g.S.length c2, .slice A3 g.M.length c3, .slice A4 g.C.length c4, .int .i64 g.dep, .int .i64 g.loc] 32 (0, 0))
  inp : InPg W A0 A1 A2 A3 A4 c0 c1 c2 c3 c4 g
section
variable {w W W2 : World} {X : Nat} {A0 A1 A2 A3 A4 : Option Addr} {c0 c1 c2 c3 c4 : Nat} {g : Pg}
theorem InBox.next (h : InBox w W X A0 A1 A2 A3 A4 c0 c1 c2 c3 c4 g) (hb : Below W.heap.size W W2) : InBox w W2 X A0 A1 A2 A3 A4 c0 c1 c2 c3 c4 g :=
  ⟨h.below.trans (hb.mono (by have := h.below.size; omega)), (hb.block _ (blk_lt h.box)).trans h.box, h.inp.below hb⟩
theorem InBox.new (hw : Below w.heap.size w W) (h : InPg W A0 A1 A2 A3 A4 c0 c1 c2 c3 c4 g) : InBox w (W.alloc (.cells #[.slice A0 g.T.length c0, .slice A1 g.N.length c1, .slice A2 g.S.length c2, .slice A3 g.M.length c3, .slice A4 g.C.length c4, .int .i64 g.dep, .int .i64 g.loc] 32 (0, 0))) W.heap.size A0 A1 A2 A3 A4 c0 c1 c2 c3 c4 g :=
  ⟨below_alloc hw _, heap_alloc_new W _, h.below (below_alloc (Below.refl W.heap.size W) _)⟩
end
set_option maxHeartbeats 4000000 in
set_option maxRecDepth 100000 in
theorem back_any (w : World) (A0 A1 A2 A3 A4 : Option Addr) (c0 c1 c2 c3 c4 : Nat) (g : Pg) (h : InPg w A0 A1 A2 A3 A4 c0 c1 c2 c3 c4 g) (f : Fits g) :
 Calls Try.prog 6 #[valPg A0 A1 A2 A3 A4 c0 c1 c2 c3 c4 g] w fun e w' => e = .returned (.bool true) ∧ Below w.heap.size w w' := by
 unfold valPg
 go_enter Try.func6, Try.ntmps6
 go_wp2_with (fail)
 have hB := InBox.new (Below.refl w.heap.size w) h
 clear h
 generalize (w.alloc (.cells #[.slice A0 g.T.length c0, .slice A1 g.N.length c1, .slice A2 g.S.length c2, .slice A3 g.M.length c3, .slice A4 g.C.length c4, .int .i64 g.dep, .int .i64 g.loc] 32 (0, 0))) = W0 at hB ⊢
 refine (fixed_any W0).mono ?_
 rintro e W1 ⟨rfl, bel⟩
 have hB1 := hB.next bel
 clear hB bel
 obtain ⟨q0, q1, q2, q3, q4, q5, q6⟩ := boxed hB1.box
 go_wp2_with (fail)
 refine (show Calls _ _ _ _ _ from small_any W1 A0 A1 A2 A3 A4 c0 c1 c2 c3 c4 g hB1.inp f).mono ?_
 rintro e W2 ⟨⟨r, rfl, hs⟩, bel⟩
 have hB2 := hB1.next bel
 clear hB1 bel q0 q1 q2 q3 q4 q5 q6
 cases r with
 | false =>
  have bel := hB2.below
  clear hB2 hs
  go_wp2_with (fail)
  go_ret
  exact ⟨rfl, bel⟩
 | true =>
  have sg := hs rfl
  clear hs
  obtain ⟨q0, q1, q2, q3, q4, q5, q6⟩ := boxed hB2.box
  go_wp2_with (fail)
  refine (show Calls _ _ _ _ _ from copy_any W2 A0 A1 A2 A3 A4 c0 c1 c2 c3 c4 g hB2.inp sg).mono ?_
  rintro e W3 ⟨B0, B1, B2, B3, B4, e0, e1, e2, e3, e4, rfl, hJ, bel⟩
  have hB3 := hB2.next bel
  clear hB2 bel q0 q1 q2 q3 q4 q5 q6
  unfold valPg
  go_wp2_with (fail)
  refine (show Calls _ _ _ _ _ from encode_any W3 B0 B1 B2 B3 B4 e0 e1 e2 e3 e4 g hJ f).mono ?_
  rintro e W4 ⟨he, bel⟩
  have hB4 := hB3.next bel
  clear hB3 bel hJ
  by_cases hf : formedB g = true
  ·
   rw [if_pos hf] at he
   obtain ⟨v, rfl, hr⟩ := he
   obtain ⟨A6, c6, rfl, k6, r6⟩ := Kd.R_reads hr
   clear hr
   go_wp2_with (fail)
   refine (show Calls _ _ _ _ _ from decode_any W4 A6 c6 (encP g) r6 k6 (encP_good g hf)).mono ?_
   intro e W5 hd
   unfold IsDec at hd
   rw [program_rt g hf] at hd
   obtain ⟨v, rfl, hp, bel⟩ := hd
   obtain ⟨D0, D1, D2, D3, D4, d0, d1, d2, d3, d4, rfl, hK⟩ := hp.read
   have hB5 := hB4.next bel
   clear hB4 bel hp r6 k6
   unfold valPg
   have hB6 := hB5.next (below_alloc (Below.refl W5.heap.size W5) (.cells #[.slice D0 g.T.length d0, .slice D1 g.N.length d1, .slice D2 g.S.length d2, .slice D3 g.M.length d3, .slice D4 g.C.length d4, .int .i64 g.dep, .int .i64 g.loc] 32 (0, 0)))
   have hD6 := InBox.new hB5.below hK
   obtain ⟨q0, q1, q2, q3, q4, q5, q6⟩ := boxed hB6.box
   obtain ⟨p0, p1, p2, p3, p4, p5, p6⟩ := boxed hD6.box
   go_wp2_with (fail)
   refine (show Calls _ _ _ _ _ from same_any _ D0 D1 D2 D3 D4 d0 d1 d2 d3 d4 g A0 A1 A2 A3 A4 c0 c1 c2 c3 c4 g hB6.inp hD6.inp f f).mono ?_
   rintro e W7 ⟨⟨r, rfl, hr⟩, bel⟩
   obtain rfl := hr.2 rfl
   have belw := (hB6.next bel).below
   clear p0 p1 p2 p3 p4 p5 p6 q0 q1 q2 q3 q4 q5 q6 hB5 hB6 hD6 bel hr
   go_wp2_with (fail)
   go_ret
   exact ⟨rfl, belw⟩
  ·
   rw [if_neg hf] at he
   subst he
   have bel := hB4.below
   clear hB4
   go_wp2_with (fail)
   go_ret
   exact ⟨rfl, bel⟩
end Go.Proofs.Ytlocnfkkfpfpfaa.D
