/- CodeDecodes, in the form that its row asks for. -/
import Derived.Test.YtlocnfkkfpfpfaazCDm46
namespace Go.Proofs.Ytlocnfkkfpfpfaa.D
open Go.RowKit Go.Proofs.YtlocnfkkfpfpfaaW.PrintWords Go.Proofs.YtlocnfkkfpfpfaaW.PrintLast Go.Proofs.YtlocnfkkfpfpfaaW.PrintMore Go.Proofs.Ytlocnfkkfpfpfaa.Six
set_option linter.unusedVariables false
noncomputable def berthlaw20_CodeDecodes.f (l : List (List Int)) : Option Bool := @ite _ (l.length ≤ 140737488351232 ∧ ∀ x ∈ l, Bytes x ∧ x.length ≤ 140737488351232) (Classical.propDecidable _) (some true) none
theorem berthlaw20_CodeDecodes.calls (A : Option Addr) (c : Nat) (l : List (List Int)) (r : Bool) (w : World) (hC : Kd.C (Kd.slice 5 (Kd.int .u8)) w A l.length l) (hc : l.length ≤ c) (h : berthlaw20_CodeDecodes.f l = some r) :
 Calls Try.prog 5 #[.slice A l.length c] w fun e w' => e = .returned (.bool r) ∧ Below w.heap.size w w' := by
 unfold berthlaw20_CodeDecodes.f at h
 split at h
 ·
  next f =>
  obtain ⟨f1, f2⟩ := f
  obtain rfl := Option.some.inj h
  exact decodes_any w A c l hC hc f1 (fun x hx => ⟨⟨(f2 x hx).1, by have := (f2 x hx).2; omega⟩, (f2 x hx).2⟩)
 ·
  cases h
end Go.Proofs.Ytlocnfkkfpfpfaa.D
