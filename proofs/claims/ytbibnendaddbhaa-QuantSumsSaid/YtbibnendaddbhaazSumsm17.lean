/- The bounds that a row hands over, type by type, and the plain statement of QuantSums: about numbers and lists alone. -/
import Derived.Test.YtbibnendaddbhaazSumsm15
import Derived.Test.YtbibnendaddbhaazSumsm16
namespace Go.Proofs.Ytbibnendaddbhaa.StatQuantSums
open Go.RowKit Go.Proofs.YtbibnendaddbhaaO Go.Proofs.YtbibnendaddbhaaW.PrintWords Go.Proofs.Ytbibnendaddbhaa.All
def B28 (y : S28) : Prop := (y.f0.size ≤ 140737488351232) ∧ (InK .i64 y.f1)
theorem o28 : Opens Try.prog 28 k28 B28 := opens_iso (fun p => ⟨p.1, p.2⟩) (fun _ => rfl) (opens_struct Try.underlying28 (by kernel_rfl) (opensF_cons rfl (by kernel_rfl) (opens_string Try.underlying9) (opensF_one rfl (by kernel_rfl) (opens_int Try.underlying3))))
def B51 (y : S51) : Prop := (InK .i64 y.f0) ∧ (y.f1.size ≤ 140737488351232) ∧ (y.f2.length * 24 ≤ 140737488351232 ∧ ∀ x ∈ y.f2, B28 x) ∧ (y.f3.length * 24 ≤ 140737488351232 ∧ ∀ x ∈ y.f3, B28 x) ∧ (y.f4.length * 24 ≤ 140737488351232 ∧ ∀ x ∈ y.f4, B28 x)
theorem o51 : Opens Try.prog 51 k51 B51 := opens_iso (fun p => ⟨p.1, p.2.1, p.2.2.1, p.2.2.2.1, p.2.2.2.2⟩) (fun _ => rfl) (opens_struct Try.underlying51 (by kernel_rfl) (opensF_cons rfl (by kernel_rfl) (opens_int Try.underlying3) (opensF_cons rfl (by kernel_rfl) (opens_string Try.underlying9) (opensF_cons rfl (by kernel_rfl) (opens_slice (b := 24) Try.underlying23 (by kernel_rfl) (by kernel_rfl) o28) (opensF_cons rfl (by kernel_rfl) (opens_slice (b := 24) Try.underlying23 (by kernel_rfl) (by kernel_rfl) o28) (opensF_one rfl (by kernel_rfl) (opens_slice (b := 24) Try.underlying23 (by kernel_rfl) (by kernel_rfl) o28)))))))
theorem q0 : Opens Try.prog 49 (Kd.slice 51 k51) (fun y => y.length * 96 ≤ 140737488351232 ∧ ∀ x ∈ y, B51 x) := (opens_slice (b := 96) Try.underlying49 (by kernel_rfl) (by kernel_rfl) o51)
def Pure : Prop := ∀ (y0 : List (S51)), (y0.length * 96 ≤ 140737488351232 ∧ ∀ x ∈ y0, B51 x) → ∃ k, berthlaw02_QuantSums.f k y0 = some true
end Go.Proofs.Ytbibnendaddbhaa.StatQuantSums
