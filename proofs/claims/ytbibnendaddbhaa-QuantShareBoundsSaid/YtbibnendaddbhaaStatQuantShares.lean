/- The bounds that a row hands over, type by type, and the plain statement of QuantShares: about numbers and lists alone. -/
import Derived.Test.YtbibnendaddbhaaAllx6
import Derived.Test.YtbibnendaddbhaaOpens
namespace Go.Proofs.Ytbibnendaddbhaa.StatQuantShares
open Go.RowKit Go.Proofs.YtbibnendaddbhaaO Go.Proofs.YtbibnendaddbhaaW.PrintWords Go.Proofs.Ytbibnendaddbhaa.All
def B35 (y : S35) : Prop := (InK .i64 y.f0) ∧ (InK .i64 y.f1) ∧ (InK .i64 y.f2)
theorem o35 : Opens Try.prog 35 k35 B35 := opens_iso (fun p => ⟨p.1, p.2.1, p.2.2⟩) (fun _ => rfl) (opens_struct Try.underlying35 (by kernel_rfl) (opensF_cons rfl (by kernel_rfl) (opens_int Try.underlying3) (opensF_cons rfl (by kernel_rfl) (opens_int Try.underlying3) (opensF_one rfl (by kernel_rfl) (opens_int Try.underlying3)))))
theorem q0 : Opens Try.prog 33 (Kd.slice 35 k35) (fun y => y.length * 24 ≤ 140737488351232 ∧ ∀ x ∈ y, B35 x) := (opens_slice (b := 24) Try.underlying33 (by kernel_rfl) (by kernel_rfl) o35)
def Pure : Prop := ∀ (y0 : List (S35)), (y0.length * 24 ≤ 140737488351232 ∧ ∀ x ∈ y0, B35 x) → ∃ k, berthlaw02_QuantShares.f k y0 = some true
end Go.Proofs.Ytbibnendaddbhaa.StatQuantShares
