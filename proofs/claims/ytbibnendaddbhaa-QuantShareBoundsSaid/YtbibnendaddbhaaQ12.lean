/- QuantShareBounds in the form that its row takes: true of all numbers that an int holds. -/
import Derived.Test.YtbibnendaddbhaaQ11
namespace Go.Proofs.Ytbibnendaddbhaa.Q
open Go.RowKit
def berthlaw02_QuantShareBounds.f (a b c : Int) : Option Bool := if a ≤ 9223372036854775807 ∧ b ≤ 9223372036854775807 ∧ c ≤ 9223372036854775807 then some true else none
theorem berthlaw02_QuantShareBounds.calls (a b c : Int) (r : Bool) (w : World) (h : berthlaw02_QuantShareBounds.f a b c = some r) :
    Calls Try.prog 6 #[.int .i64 a, .int .i64 b, .int .i64 c] w fun re w' => re = .returned (.bool r) ∧ Below w.heap.size w w' := by
  unfold berthlaw02_QuantShareBounds.f at h
  split at h
  · rename_i g
    injection h with h
    subst h
    exact bounds_calls g.1 g.2.2 g.2.1 w
  · exact absurd h (by simp)
end Go.Proofs.Ytbibnendaddbhaa.Q
