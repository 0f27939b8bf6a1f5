/- CodeBack: its walk. -/
import Derived.Test.YtlocnfkkfpfpfaazCDm42
namespace Go.Proofs.Ytlocnfkkfpfpfaa.D
open Go.RowKit Go.Proofs.YtlocnfkkfpfpfaaW.PrintWords Go.Proofs.YtlocnfkkfpfpfaaW.PrintLast Go.Proofs.YtlocnfkkfpfpfaaW.PrintMore Go.Proofs.Ytlocnfkkfpfpfaa.Six
set_option linter.unusedSimpArgs false
set_option linter.unusedVariables false
structure InBox (w W : World) (X : Nat) (A0 A1 A2 A3 A4 : Option Addr) (c0 c1 c2 c3 c4 : Nat) (g : Pg) : Prop where
  below : Below w.heap.size w W
  box : W.heap[X]? = some (.cells #[.slice A0 g.T.length c0, .slice A1 g.N.length c1, .slice A2 g.S.length c2, .slice A3 g.M.length c3, .slice A4 g.C.length c4, .int .i64 g.dep, .int .i64 g.loc] 32 (0, 0))
  inp : InPg W A0 A1 A2 A3 A4 c0 c1 c2 c3 c4 g
section
variable {w W W2 : World} {X : Nat} {A0 A1 A2 A3 A4 : Option Addr} {c0 c1 c2 c3 c4 : Nat} {g : Pg}
theorem InBox.next (h : InBox w W X A0 A1 A2 A3 A4 c0 c1 c2 c3 c4 g) (hb : Below W.heap.size W W2) : InBox w W2 X A0 A1 A2 A3 A4 c0 c1 c2 c3 c4 g :=
  ⟨h.below.trans (hb.mono (by have := h.below.size; omega)), (hb.block _ (blk_lt h.box)).trans h.box, h.inp.below hb⟩
theorem InBox.new (hw : Below w.heap.size w W) (h : InPg W A0 A1 A2 A3 A4 c0 c1 c2 c3 c4 g) : InBox w (W.alloc (.cells #[.slice A0 g.T.length c0, .slice A1 g.N.length c1, .slice A2 g.S.length c2, .slice A3 g.M.length c3, .slice A4 g.C.length c4, .int .i64 g.dep, .int .i64 g.loc] 32 (0, 0))) W.heap.size A0 A1 A2 A3 A4 c0 c1 c2 c3 c4 g :=
  ⟨below_alloc hw _, heap_alloc_new W _, h.below (below_alloc (Below.refl W.heap.size W) _)⟩
end
end Go.Proofs.Ytlocnfkkfpfpfaa.D
