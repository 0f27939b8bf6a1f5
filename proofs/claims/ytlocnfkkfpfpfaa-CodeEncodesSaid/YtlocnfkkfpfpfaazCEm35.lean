/- The reference's counts, signed numbers and texts as bytes: what they answer. -/
import Derived.Test.YtlocnfkkfpfpfaazCEm31
import Derived.Test.YtlocnfkkfpfpfaazCEm24
namespace Go.Proofs.Ytlocnfkkfpfpfaa.D
open Go.RowKit Go.Proofs.YtlocnfkkfpfpfaaW.PrintWords Go.Proofs.YtlocnfkkfpfpfaaW.PrintLast Go.Proofs.YtlocnfkkfpfpfaaW.PrintMore Go.Proofs.Ytlocnfkkfpfpfaa.Six
set_option linter.unusedSimpArgs false
set_option linter.unusedVariables false
theorem Count_l0_succ (k : Nat) (x0 : Int) (x3 : List Int) : berthref20_Count.l0 (k + 1) x0 x3 = if x0 > 127 then (if x3.length < 140737488355328 then (berthref20_Count.l0 k (wrap64 (Int.tdiv x0 128)) (x3 ++ [(wrap64 ((Int.tmod x0 128) + 128)) % 256])) else (none)) else (if x3.length < 140737488355328 then (some (x3 ++ [(x0) % 256])) else (none)) := rfl
theorem count_l : ∀ (f : Nat) (n : Int) (acc : List Int) (k : Nat), f < k → 0 ≤ n → n ≤ 9000000000000000000 → n < 128 ^ (f + 1) → acc.length + f ≤ 1000 → berthref20_Count.l0 k n acc = some (acc ++ cntF f n)
 | f, n, acc, 0, hk, _, _, _, _ => by omega
 | 0, n, acc, k + 1, _, h0, h9, h1, hl => by
  have h1' : n < 128 := by simpa using h1
  rw [Count_l0_succ, if_neg (by omega), if_pos (by omega)]
  rfl
 | f + 1, n, acc, k + 1, hk, h0, h9, h1, hl => by
  rw [Count_l0_succ]
  by_cases hn : n > 127
  ·
   rw [if_pos hn, if_pos (by omega), Int.tdiv_eq_ediv_of_nonneg h0, Int.tmod_eq_emod_of_nonneg h0, wrap_ (n / 128) (by omega) (by omega), wrap_ (n % 128 + 128) (by omega) (by omega), show (n % 128 + 128) % 256 = n % 128 + 128 by omega]
   have hb : n / 128 < 128 ^ (f + 1) := by
    rw [Int.pow_succ] at h1
    exact Int.ediv_lt_of_lt_mul (by omega) h1
   rw [count_l f (n / 128) _ k (by omega) (by omega) (by omega) hb (by simp only [List.length_append, List.length_cons, List.length_nil]; omega)]
   have e : cntF (f + 1) n = (n % 128 + 128) :: cntF f (n / 128) := by
    conv => lhs; unfold cntF
    rw [if_pos (by omega)]
   rw [e, List.append_assoc]
   rfl
  ·
   rw [if_neg hn, if_pos (by omega)]
   have e : cntF (f + 1) n = [n % 256] := by
    conv => lhs; unfold cntF
    rw [if_neg (by omega)]
   rw [e]
theorem count_f (n : Int) (h0 : 0 ≤ n) (h1 : n ≤ 2000000000000000000) : berthref20_Count.f 20 n = some (encCount n) := by
  unfold berthref20_Count.f
  rw [count_l 9 n [] 20 (by omega) h0 (by omega) (by have : (128 : Int) ^ (9 + 1) = 1180591620717411303424 := by decide
                                                     rw [this]; omega) (by simp)]
  rfl
def GivesB (W : World) (l : List Int) (e : Ending) (w' : World) : Prop := ∃ v : Value, e = .returned v ∧ (Kd.int .u8).R 5 w' W.heap.size (fun _ => True) v l ∧ Below W.heap.size W w'
theorem refCount_any (W : World) (n : Int) (h0 : 0 ≤ n) (h1 : n ≤ 2000000000000000000) : Calls Try.prog 37 #[.int .i64 n] W (GivesB W (encCount n)) := berthref20_Count.calls 20 n _ W (count_f n h0 h1)
theorem refSigned_any (W : World) (n : Int) (h : -1000000000000000000 ≤ n ∧ n ≤ 1000000000000000000) : Calls Try.prog 39 #[.int .i64 n] W (GivesB W (encNum n)) := by
 refine berthref20_Signed.calls 20 n _ W ?_
 unfold berthref20_Signed.f encNum
 by_cases h0 : n < 0
 ·
  rw [if_neg (by omega), if_pos h0, wrap_ (-2 * n) (by omega) (by omega), wrap_ (-2 * n - 1) (by omega) (by omega), count_f _ (by omega) (by omega)]
  rfl
 ·
  rw [if_pos (by omega), if_neg h0, wrap_ (2 * n) (by omega) (by omega), count_f _ (by omega) (by omega)]
  rfl
theorem refText_any (W : World) (s : ByteArray) (h : s.size ≤ 127) : Calls Try.prog 38 #[.string s] W (GivesB W (encText s)) := by
  refine berthref20_text.calls 20 s _ W ?_
  unfold berthref20_text.f encText
  rw [count_f _ (by omega) (by omega), Option.bind_some]
  have := encCount_len s.size
  rw [if_pos (by omega)]
end Go.Proofs.Ytlocnfkkfpfpfaa.D
