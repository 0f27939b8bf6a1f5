/- The plain statement of CodeOneForm. -/
import Derived.Test.YtlocnfkkfpfpfaazCOm35
namespace Go.Proofs.Ytlocnfkkfpfpfaa.Pure
open Go.RowKit Go.Proofs.YtlocnfkkfpfpfaaO Go.Proofs.YtlocnfkkfpfpfaaW.PrintWords Go.Proofs.YtlocnfkkfpfpfaaW.PrintLast Go.Proofs.Ytlocnfkkfpfpfaa.D Go.Proofs.Ytlocnfkkfpfpfaa.Six Go.Proofs.Ytlocnfkkfpfpfaa.StatCodeOneForm
theorem inK_u8 {x : Int} (h : InK .u8 x) : 0 ≤ x ∧ x ≤ 255 := by
  have : (Lit.int .u8 x).wf = true := h
  simp [Lit.wf, IntKind.min, IntKind.max, IntKind.signed, IntKind.bits] at this
  omega
theorem CodeOneForm : StatCodeOneForm.Pure := by
  intro a b h0 h1
  unfold berthlaw20_CodeOneForm.f
  rw [if_pos]
  exact ⟨fun x hx => inK_u8 (h0.2 x hx), fun x hx => inK_u8 (h1.2 x hx), by omega, by omega⟩
end Go.Proofs.Ytlocnfkkfpfpfaa.Pure
