/- The bounds that a row hands over, type by type, and the plain statement of CodeDecodes: about numbers and lists alone. -/
import Derived.Test.YtlocnfkkfpfpfaazCDm47
import Derived.Test.YtlocnfkkfpfpfaazCDm48
namespace Go.Proofs.Ytlocnfkkfpfpfaa.StatCodeDecodes
open Go.RowKit Go.Proofs.YtlocnfkkfpfpfaaO Go.Proofs.YtlocnfkkfpfpfaaW.PrintWords Go.Proofs.Ytlocnfkkfpfpfaa.D Go.Proofs.Ytlocnfkkfpfpfaa.Six
theorem q0 : Opens Try.prog 43 (Kd.slice 34 (Kd.slice 5 (Kd.int .u8))) (fun y => y.length * 24 ≤ 140737488351232 ∧ ∀ x ∈ y, x.length * 1 ≤ 140737488351232 ∧ ∀ xx ∈ x, InK .u8 xx) := (opens_slice (b := 24) Try.underlying43 (by kernel_rfl) (by kernel_rfl) (opens_slice (b := 1) Try.underlying34 (by kernel_rfl) (by kernel_rfl) (opens_int Try.underlying5)))
def Pure : Prop := ∀ (y0 : List (List (Int))), (y0.length * 24 ≤ 140737488351232 ∧ ∀ x ∈ y0, x.length * 1 ≤ 140737488351232 ∧ ∀ xx ∈ x, InK .u8 xx) → berthlaw20_CodeDecodes.f y0 = some true
end Go.Proofs.Ytlocnfkkfpfpfaa.StatCodeDecodes
