/- The plain statement of QuantShareBounds: the numbers are such as an int holds. -/
import Derived.Test.YtbibnendaddbhaaStatQuantShareBounds
import Derived.Test.YtbibnendaddbhaaQ12
import Derived.Test.YtbibnendaddbhaaPureQuantShares
namespace Go.Proofs.Ytbibnendaddbhaa.Pure
open Go.RowKit Go.Proofs.YtbibnendaddbhaaO Go.Proofs.YtbibnendaddbhaaW.PrintWords Go.Proofs.Ytbibnendaddbhaa.Q Go.Proofs.Ytbibnendaddbhaa.StatQuantShareBounds
theorem QuantShareBounds : StatQuantShareBounds.Pure := fun _ _ _ ha hb hc => if_pos ⟨Shares.i64_le ha, Shares.i64_le hb, Shares.i64_le hc⟩
end Go.Proofs.Ytbibnendaddbhaa.Pure
