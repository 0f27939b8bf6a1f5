/- CodeOneForm: its walk. -/
import Derived.Test.YtlocnfkkfpfpfaazCDm43
import Derived.Test.YtlocnfkkfpfpfaazCDm19
namespace Go.Proofs.Ytlocnfkkfpfpfaa.D
open Go.RowKit Go.Proofs.YtlocnfkkfpfpfaaW.PrintWords Go.Proofs.YtlocnfkkfpfpfaaW.PrintLast Go.Proofs.YtlocnfkkfpfpfaaW.PrintMore Go.Proofs.Ytlocnfkkfpfpfaa.Six
set_option linter.unusedSimpArgs false
set_option linter.unusedVariables false
theorem own_empty (W : World) : (Kd.int .u8).R 5 (W.alloc (.cells #[] 5)) W.heap.size (fun k => W.heap.size ≤ k) (.slice (some ⟨W.heap.size, 0, none⟩) 0 0) [] := by
  have h := World.ownsRow_lit (base := W.heap.size) (e := 5) (size := 1) W #[] 0 (Nat.le_refl _) (by simp [maxLen]) (by simp)
  exact own_ints (xs := []) (by simpa using h) (fun k hk => hk)
theorem C_nil {α : Type} (d : Kd α) (W : World) : d.C W none 0 [] := (Kd.R_reads' (Kd.R_nil d 0 W 0 (fun _ => True))).2.2
def g0 : Pg := ⟨[], [], [], [], [], 0, 0⟩
theorem g0_in (W : World) : InPg W none none none none none 0 0 0 0 0 g0 := ⟨C_nil _ W, C_nil _ W, C_nil _ W, C_nil _ W, C_nil _ W, Nat.le_refl _, Nat.le_refl _, Nat.le_refl _, Nat.le_refl _, Nat.le_refl _⟩
theorem g0_fits : Fits g0 := ⟨Nat.zero_le _, Nat.zero_le _, Nat.zero_le _, Nat.zero_le _, Nat.zero_le _, fun _ h => (by cases h), fun _ h => (by cases h)⟩
end Go.Proofs.Ytlocnfkkfpfpfaa.D
