/- CodeEncodes, in the form that its row asks for. -/
import Derived.Test.YtlocnfkkfpfpfaazCEm39
namespace Go.Proofs.Ytlocnfkkfpfpfaa.D
open Go.RowKit Go.Proofs.YtlocnfkkfpfpfaaW.PrintWords Go.Proofs.YtlocnfkkfpfpfaaW.PrintLast Go.Proofs.YtlocnfkkfpfpfaaW.PrintMore Go.Proofs.Ytlocnfkkfpfpfaa.Six
set_option linter.unusedVariables false
noncomputable def berthlaw20_CodeEncodes.f (l : List S32) : Option Bool := @ite _ (l.length ≤ 140737488351232 ∧ ∀ x ∈ l, Fits (S32.pg x)) (Classical.propDecidable _) (some true) none
theorem berthlaw20_CodeEncodes.calls (A : Option Addr) (c : Nat) (l : List S32) (r : Bool) (w : World) (hC : Kd.C k32 w A l.length l) (hc : l.length ≤ c) (h : berthlaw20_CodeEncodes.f l = some r) :
 Calls Try.prog 4 #[.slice A l.length c] w fun e w' => e = .returned (.bool r) ∧ Below w.heap.size w w' := by
 unfold berthlaw20_CodeEncodes.f at h
 split at h
 ·
  next f =>
  obtain ⟨f1, f2⟩ := f
  obtain rfl := Option.some.inj h
  exact encodes_any w A c l hC hc f1 f2
 ·
  cases h
end Go.Proofs.Ytlocnfkkfpfpfaa.D
