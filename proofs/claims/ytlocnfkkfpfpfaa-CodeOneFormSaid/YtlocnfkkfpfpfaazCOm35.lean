/- The bounds that a row hands over, type by type, and the plain statement of CodeOneForm: about numbers and lists alone. -/
import Derived.Test.YtlocnfkkfpfpfaazCOm33
import Derived.Test.YtlocnfkkfpfpfaazCOm34
namespace Go.Proofs.Ytlocnfkkfpfpfaa.StatCodeOneForm
open Go.RowKit Go.Proofs.YtlocnfkkfpfpfaaO Go.Proofs.YtlocnfkkfpfpfaaW.PrintWords Go.Proofs.Ytlocnfkkfpfpfaa.D Go.Proofs.Ytlocnfkkfpfpfaa.Six
theorem q0 : Opens Try.prog 34 (Kd.slice 5 (Kd.int .u8)) (fun y => y.length * 1 ≤ 140737488351232 ∧ ∀ x ∈ y, InK .u8 x) := (opens_slice (b := 1) Try.underlying34 (by kernel_rfl) (by kernel_rfl) (opens_int Try.underlying5))
theorem q1 : Opens Try.prog 34 (Kd.slice 5 (Kd.int .u8)) (fun y => y.length * 1 ≤ 140737488351232 ∧ ∀ x ∈ y, InK .u8 x) := (opens_slice (b := 1) Try.underlying34 (by kernel_rfl) (by kernel_rfl) (opens_int Try.underlying5))
def Pure : Prop := ∀ (y0 : List (Int)) (y1 : List (Int)), (y0.length * 1 ≤ 140737488351232 ∧ ∀ x ∈ y0, InK .u8 x) → (y1.length * 1 ≤ 140737488351232 ∧ ∀ x ∈ y1, InK .u8 x) → berthlaw20_CodeOneForm.f y0 y1 = some true
end Go.Proofs.Ytlocnfkkfpfpfaa.StatCodeOneForm
