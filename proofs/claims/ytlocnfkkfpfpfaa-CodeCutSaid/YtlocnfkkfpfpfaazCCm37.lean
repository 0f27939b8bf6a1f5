/- The plain statement of CodeCut. -/
import Derived.Test.YtlocnfkkfpfpfaazCCm36
namespace Go.Proofs.Ytlocnfkkfpfpfaa.Pure
open Go.RowKit Go.Proofs.YtlocnfkkfpfpfaaO Go.Proofs.YtlocnfkkfpfpfaaW.PrintWords Go.Proofs.YtlocnfkkfpfpfaaW.PrintLast Go.Proofs.Ytlocnfkkfpfpfaa.D Go.Proofs.Ytlocnfkkfpfpfaa.Six Go.Proofs.Ytlocnfkkfpfpfaa.StatCodeCut
theorem inK_u8 {x : Int} (h : InK .u8 x) : 0 ≤ x ∧ x ≤ 255 := by
  have : (Lit.int .u8 x).wf = true := h
  simp [Lit.wf, IntKind.min, IntKind.max, IntKind.signed, IntKind.bits] at this
  omega
theorem CodeCut : StatCodeCut.Pure := by
  intro y ct b h _ hb
  unfold B32 at h
  obtain ⟨h0, h1, h2, h3, h4, h5, h6⟩ := h
  unfold berthlaw20_CodeCut.f
  rw [if_pos]
  have g0 : y.f0.length ≤ 140737488351232 := by omega
  have g1 : y.f1.length ≤ 140737488351232 := by omega
  have g2 : y.f2.length ≤ 140737488351232 := by omega
  have g3 : y.f3.length ≤ 140737488351232 := by omega
  have g4 : y.f4.length ≤ 140737488351232 := by omega
  exact ⟨⟨g0, g1, g2, g3, g4, fun x hx => by have := (h2.2 x hx).1; omega, fun x hx => by have := (h3.2 x hx).1; omega⟩, fun x hx => inK_u8 (hb.2 x hx), by omega⟩
end Go.Proofs.Ytlocnfkkfpfpfaa.Pure
