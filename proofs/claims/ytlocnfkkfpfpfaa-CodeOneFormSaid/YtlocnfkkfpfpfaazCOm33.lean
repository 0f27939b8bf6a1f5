/- CodeOneForm, in the form that its row asks for. -/
import Derived.Test.YtlocnfkkfpfpfaazCOm32
namespace Go.Proofs.Ytlocnfkkfpfpfaa.D
open Go.RowKit Go.Proofs.YtlocnfkkfpfpfaaW.PrintWords Go.Proofs.YtlocnfkkfpfpfaaW.PrintLast Go.Proofs.YtlocnfkkfpfpfaaW.PrintMore Go.Proofs.Ytlocnfkkfpfpfaa.Six
set_option linter.unusedVariables false
noncomputable def berthlaw20_CodeOneForm.f (a b : List Int) : Option Bool := @ite _ (Bytes a ∧ Bytes b ∧ a.length ≤ 140737488351232 ∧ b.length ≤ 140737488351232) (Classical.propDecidable _) (some true) none
theorem berthlaw20_CodeOneForm.calls (A : Option Addr) (c : Nat) (a : List Int) (B : Option Addr) (d : Nat) (b : List Int) (r : Bool) (w : World)
 (ha : Kd.C (Kd.int .u8) w A a.length a) (hc : a.length ≤ c) (hb : Kd.C (Kd.int .u8) w B b.length b) (hd : b.length ≤ d) (h : berthlaw20_CodeOneForm.f a b = some r) :
 Calls Try.prog 7 #[.slice A a.length c, .slice B b.length d] w fun e w' => e = .returned (.bool r) ∧ Below w.heap.size w w' := by
 unfold berthlaw20_CodeOneForm.f at h
 split at h
 ·
  next f =>
  obtain ⟨f1, f2, f3, f4⟩ := f
  obtain rfl := Option.some.inj h
  exact oneForm_any w A B c d a b ha hc hb hd ⟨f1, by omega⟩ ⟨f2, by omega⟩ f3 f4
 ·
  cases h
end Go.Proofs.Ytlocnfkkfpfpfaa.D
