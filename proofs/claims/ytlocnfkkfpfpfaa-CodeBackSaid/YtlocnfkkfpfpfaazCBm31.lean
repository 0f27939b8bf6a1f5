/- CodeBack, in the form that its row asks for. -/
import Derived.Test.YtlocnfkkfpfpfaazCBm30
namespace Go.Proofs.Ytlocnfkkfpfpfaa.D
open Go.RowKit Go.Proofs.YtlocnfkkfpfpfaaW.PrintWords Go.Proofs.YtlocnfkkfpfpfaaW.PrintLast Go.Proofs.YtlocnfkkfpfpfaaW.PrintMore Go.Proofs.Ytlocnfkkfpfpfaa.Six
set_option linter.unusedVariables false
noncomputable def berthlaw20_CodeBack.f (T : List ByteArray) (N : List Int) (S : List (List ByteArray)) (M : List (List Int)) (C : List S74) (d l : Int) : Option Bool := @ite _ (Fits ⟨T, N, S, M, C, d, l⟩) (Classical.propDecidable _) (some true) none
theorem berthlaw20_CodeBack.calls (A0 : Option Addr) (c0 : Nat) (T : List ByteArray) (A1 : Option Addr) (c1 : Nat) (N : List Int) (A2 : Option Addr) (c2 : Nat) (S : List (List ByteArray)) (A3 : Option Addr) (c3 : Nat) (M : List (List Int)) (A4 : Option Addr) (c4 : Nat) (C : List S74) (d l : Int) (r : Bool) (w : World)
 (hT : Kd.C Kd.string w A0 T.length T) (lT : T.length ≤ c0) (hN : Kd.C (Kd.int .i64) w A1 N.length N) (lN : N.length ≤ c1) (hS : Kd.C (Kd.slice 9 Kd.string) w A2 S.length S) (lS : S.length ≤ c2) (hM : Kd.C (Kd.slice 3 (Kd.int .i64)) w A3 M.length M) (lM : M.length ≤ c3) (hC : Kd.C k74 w A4 C.length C) (lC : C.length ≤ c4)
 (h : berthlaw20_CodeBack.f T N S M C d l = some r) :
 Calls Try.prog 6 #[.agg #[.slice A0 T.length c0, .slice A1 N.length c1, .slice A2 S.length c2, .slice A3 M.length c3, .slice A4 C.length c4, .int .i64 d, .int .i64 l]] w fun e w' => e = .returned (.bool r) ∧ Below w.heap.size w w' := by
 unfold berthlaw20_CodeBack.f at h
 split at h
 ·
  next f =>
  obtain rfl := Option.some.inj h
  exact back_any w A0 A1 A2 A3 A4 c0 c1 c2 c3 c4 ⟨T, N, S, M, C, d, l⟩ ⟨hT, hN, hS, hM, hC, lT, lN, lS, lM, lC⟩ f
 ·
  cases h
end Go.Proofs.Ytlocnfkkfpfpfaa.D
