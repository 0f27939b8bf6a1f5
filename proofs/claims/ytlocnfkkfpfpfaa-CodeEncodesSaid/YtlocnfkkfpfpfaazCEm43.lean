/- The plain statement of CodeEncodes. -/
import Derived.Test.YtlocnfkkfpfpfaazCEm42
namespace Go.Proofs.Ytlocnfkkfpfpfaa.Pure
open Go.RowKit Go.Proofs.YtlocnfkkfpfpfaaO Go.Proofs.YtlocnfkkfpfpfaaW.PrintWords Go.Proofs.YtlocnfkkfpfpfaaW.PrintLast Go.Proofs.Ytlocnfkkfpfpfaa.D Go.Proofs.Ytlocnfkkfpfpfaa.Six Go.Proofs.Ytlocnfkkfpfpfaa.StatCodeEncodes
theorem CodeEncodes : StatCodeEncodes.Pure := by
  intro l hl
  unfold berthlaw20_CodeEncodes.f
  rw [if_pos]
  refine ⟨by omega, fun y hy => ?_⟩
  have h := hl.2 y hy
  unfold B32 at h
  obtain ⟨h0, h1, h2, h3, h4, h5, h6⟩ := h
  have g0 : y.f0.length ≤ 140737488351232 := by omega
  have g1 : y.f1.length ≤ 140737488351232 := by omega
  have g2 : y.f2.length ≤ 140737488351232 := by omega
  have g3 : y.f3.length ≤ 140737488351232 := by omega
  have g4 : y.f4.length ≤ 140737488351232 := by omega
  exact ⟨g0, g1, g2, g3, g4, fun x hx => by have := (h2.2 x hx).1; omega, fun x hx => by have := (h3.2 x hx).1; omega⟩
end Go.Proofs.Ytlocnfkkfpfpfaa.Pure
