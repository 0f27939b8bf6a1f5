/- The bounds that a row hands over, type by type, and the plain statement of QuantShareBounds: about numbers and lists alone. -/
import Derived.Test.YtbibnendaddbhaaQ12
import Derived.Test.YtbibnendaddbhaaOpens
namespace Go.Proofs.Ytbibnendaddbhaa.StatQuantShareBounds
open Go.RowKit Go.Proofs.YtbibnendaddbhaaO Go.Proofs.YtbibnendaddbhaaW.PrintWords Go.Proofs.Ytbibnendaddbhaa.Q Go.Proofs.Ytbibnendaddbhaa.Q
theorem q0 : Opens Try.prog 3 (Kd.int .i64) (fun y => InK .i64 y) := (opens_int Try.underlying3)
theorem q1 : Opens Try.prog 3 (Kd.int .i64) (fun y => InK .i64 y) := (opens_int Try.underlying3)
theorem q2 : Opens Try.prog 3 (Kd.int .i64) (fun y => InK .i64 y) := (opens_int Try.underlying3)
def Pure : Prop := ∀ (y0 : Int) (y1 : Int) (y2 : Int), (InK .i64 y0) → (InK .i64 y1) → (InK .i64 y2) → berthlaw02_QuantShareBounds.f y0 y1 y2 = some true
end Go.Proofs.Ytbibnendaddbhaa.StatQuantShareBounds
