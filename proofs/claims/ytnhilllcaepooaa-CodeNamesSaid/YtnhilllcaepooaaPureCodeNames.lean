/- The plain statement behind CodeNames: the printed function comes to 'true' within 64 rounds. No condition. -/
import Derived.Test.YtnhilllcaepooaaPCodeNamesx1
namespace Go.Proofs.Ytnhilllcaepooaa.Pure
open Go.RowKit Go.Proofs.Ytnhilllcaepooaa.PCodeNames Go.Proofs.YtnhilllcaepooaaW.PrintWords Go.Proofs.YtnhilllcaepooaaW.PrintLast

theorem CodeNames : berthlaw20_CodeNames.Pure := ⟨64, by decide +kernel⟩

end Go.Proofs.Ytnhilllcaepooaa.Pure
