/- CodeOneForm: its walk. -/
import Derived.Test.YtlocnfkkfpfpfaazCEm33
import Derived.Test.YtlocnfkkfpfpfaazCEm37
namespace Go.Proofs.Ytlocnfkkfpfpfaa.D
open Go.RowKit Go.Proofs.YtlocnfkkfpfpfaaW.PrintWords Go.Proofs.YtlocnfkkfpfpfaaW.PrintLast Go.Proofs.YtlocnfkkfpfpfaaW.PrintMore Go.Proofs.Ytlocnfkkfpfpfaa.Six
set_option linter.unusedSimpArgs false
set_option linter.unusedVariables false
theorem C_nil {α : Type} (d : Kd α) (W : World) : d.C W none 0 [] := (Kd.R_reads' (Kd.R_nil d 0 W 0 (fun _ => True))).2.2
def g0 : Pg := ⟨[], [], [], [], [], 0, 0⟩
end Go.Proofs.Ytlocnfkkfpfpfaa.D
