/- The bounds that a row hands over, type by type, and the plain statement of QuantAway: about numbers and lists alone. -/
import Derived.Test.YtbibnendaddbhaaAllx9
import Derived.Test.YtbibnendaddbhaaOpens
namespace Go.Proofs.Ytbibnendaddbhaa.StatQuantAway
open Go.RowKit Go.Proofs.YtbibnendaddbhaaO Go.Proofs.YtbibnendaddbhaaW.PrintWords Go.Proofs.Ytbibnendaddbhaa.All
def B28 (y : S28) : Prop := (y.f0.size ≤ 140737488351232) ∧ (InK .i64 y.f1)
theorem o28 : Opens Try.prog 28 k28 B28 := opens_iso (fun p => ⟨p.1, p.2⟩) (fun _ => rfl) (opens_struct Try.underlying28 (by kernel_rfl) (opensF_cons rfl (by kernel_rfl) (opens_string Try.underlying9) (opensF_one rfl (by kernel_rfl) (opens_int Try.underlying3))))
theorem q0 : Opens Try.prog 23 (Kd.slice 28 k28) (fun y => y.length * 24 ≤ 140737488351232 ∧ ∀ x ∈ y, B28 x) := (opens_slice (b := 24) Try.underlying23 (by kernel_rfl) (by kernel_rfl) o28)
theorem q1 : Opens Try.prog 23 (Kd.slice 28 k28) (fun y => y.length * 24 ≤ 140737488351232 ∧ ∀ x ∈ y, B28 x) := (opens_slice (b := 24) Try.underlying23 (by kernel_rfl) (by kernel_rfl) o28)
def Pure : Prop := ∀ (y0 : List (S28)) (y1 : List (S28)), (y0.length * 24 ≤ 140737488351232 ∧ ∀ x ∈ y0, B28 x) → (y1.length * 24 ≤ 140737488351232 ∧ ∀ x ∈ y1, B28 x) → ∃ k, berthlaw02_QuantAway.f k y0 y1 = some true
end Go.Proofs.Ytbibnendaddbhaa.StatQuantAway
