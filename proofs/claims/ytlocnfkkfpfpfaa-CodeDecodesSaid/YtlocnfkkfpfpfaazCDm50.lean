/- The plain statement of CodeDecodes. -/
import Derived.Test.YtlocnfkkfpfpfaazCDm49
namespace Go.Proofs.Ytlocnfkkfpfpfaa.Pure
open Go.RowKit Go.Proofs.YtlocnfkkfpfpfaaO Go.Proofs.YtlocnfkkfpfpfaaW.PrintWords Go.Proofs.YtlocnfkkfpfpfaaW.PrintLast Go.Proofs.Ytlocnfkkfpfpfaa.D Go.Proofs.Ytlocnfkkfpfpfaa.Six Go.Proofs.Ytlocnfkkfpfpfaa.StatCodeDecodes
theorem inK_u8 {x : Int} (h : InK .u8 x) : 0 ≤ x ∧ x ≤ 255 := by
  have : (Lit.int .u8 x).wf = true := h
  simp [Lit.wf, IntKind.min, IntKind.max, IntKind.signed, IntKind.bits] at this
  omega
theorem CodeDecodes : StatCodeDecodes.Pure := by
  intro l h0
  unfold berthlaw20_CodeDecodes.f
  rw [if_pos]
  exact ⟨by omega, fun x hx => ⟨fun y hy => inK_u8 ((h0.2 x hx).2 y hy), by have := (h0.2 x hx).1; omega⟩⟩
end Go.Proofs.Ytlocnfkkfpfpfaa.Pure
