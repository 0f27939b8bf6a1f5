/- small and Copy, plain; what they answer of a program. -/
import Derived.Test.YtlocnfkkfpfpfaazCEm22
import Derived.Test.YtlocnfkkfpfpfaazCEm26
import Derived.Test.YtlocnfkkfpfpfaazCEm27
namespace Go.Proofs.Ytlocnfkkfpfpfaa.D
open Go.RowKit Go.Proofs.YtlocnfkkfpfpfaaW.PrintWords Go.Proofs.YtlocnfkkfpfpfaaW.PrintLast Go.Proofs.YtlocnfkkfpfpfaaW.PrintMore Go.Proofs.Ytlocnfkkfpfpfaa.Six
set_option linter.unusedSimpArgs false
set_option linter.unusedVariables false
theorem small_j1_succ (k : Nat) (x3 : Int) (x254000 : List ByteArray) (x254001 : List Int) (x254002 : List (List ByteArray)) (x254003 : List (List Int)) (x254004 : List (S74)) (x254005 : Int) (x254006 : Int) : berthlaw20_small.j1 (k + 1) x3 x254000 x254001 x254002 x254003 x254004 x254005 x254006 = berthlaw20_small.l1 k x3 0 x254000 x254001 x254002 x254003 x254004 x254005 x254006 := rfl
theorem small_l1_succ (k : Nat) (x3 : Int) (x5 : Int) (x254000 : List ByteArray) (x254001 : List Int) (x254002 : List (List ByteArray)) (x254003 : List (List Int)) (x254004 : List (S74)) (x254005 : Int) (x254006 : Int) : berthlaw20_small.l1 (k + 1) x3 x5 x254000 x254001 x254002 x254003 x254004 x254005 x254006 = if x5 < (x254003.length : Int) then (if x3 < 8388608 then (if 0 ≤ x5 then (berthlaw20_small.l1 k (wrap64 (x3 + ((rd_L3 x254003 x5).length : Int))) (wrap64 (x5 + 1)) x254000 x254001 x254002 x254003 x254004 x254005 x254006) else (none)) else (some (decide (x3 < 8388608)))) else (some (decide (x3 < 8388608))) := rfl
theorem small_l0_succ (k : Nat) (x3 : Int) (x4 : Int) (x254000 : List ByteArray) (x254001 : List Int) (x254002 : List (List ByteArray)) (x254003 : List (List Int)) (x254004 : List (S74)) (x254005 : Int) (x254006 : Int) : berthlaw20_small.l0 (k + 1) x3 x4 x254000 x254001 x254002 x254003 x254004 x254005 x254006 = if x4 < (x254002.length : Int) then (if x3 < 8388608 then (if 0 ≤ x4 then (berthlaw20_small.l0 k (wrap64 (x3 + ((rd_L2 x254002 x4).length : Int))) (wrap64 (x4 + 1)) x254000 x254001 x254002 x254003 x254004 x254005 x254006) else (none)) else (berthlaw20_small.j1 k x3 x254000 x254001 x254002 x254003 x254004 x254005 x254006)) else (berthlaw20_small.j1 k x3 x254000 x254001 x254002 x254003 x254004 x254005 x254006) := rfl
theorem Copy_l0_succ (k : Nat) (x4 : Int) (x311000 : List ByteArray) (x311001 : List Int) (x311002 : List (List ByteArray)) (x311003 : List (List Int)) (x311004 : List (S74)) (x311005 : Int) (x311006 : Int) (x313000 : List ByteArray) (x313001 : List Int) (x313002 : List (List ByteArray)) (x313004 : List (S74)) (x313005 : Int) (x313006 : Int) : berthref20_Copy.l0 (k + 1) x4 x311000 x311001 x311002 x311003 x311004 x311005 x311006 x313000 x313001 x313002 x313004 x313005 x313006 = if x4 < (x311002.length : Int) then ((some (([] : List ByteArray) : List ByteArray)).bind fun y322 => (if 0 ≤ x4 then (if y322.length + (rd_L2 x311002 x4).length < 8796093022208 then (if x313002.length < 5864062014805 then (berthref20_Copy.l0 k (wrap64 (x4 + 1)) x311000 x311001 x311002 x311003 x311004 x311005 x311006 x313000 x313001 (x313002 ++ [(y322 ++ (rd_L2 x311002 x4))]) x313004 x313005 x313006) else (none)) else (none)) else (none))) else (berthref20_Copy.l1 k 0 x311000 x311001 x311002 x311003 x311004 x311005 x311006 x313000 x313001 x313002 ([] : List (List Int)) x313004 x313005 x313006) := rfl
theorem Copy_l1_succ (k : Nat) (x5 : Int) (x311000 : List ByteArray) (x311001 : List Int) (x311002 : List (List ByteArray)) (x311003 : List (List Int)) (x311004 : List (S74)) (x311005 : Int) (x311006 : Int) (x313000 : List ByteArray) (x313001 : List Int) (x313002 : List (List ByteArray)) (x313003 : List (List Int)) (x313004 : List (S74)) (x313005 : Int) (x313006 : Int) : berthref20_Copy.l1 (k + 1) x5 x311000 x311001 x311002 x311003 x311004 x311005 x311006 x313000 x313001 x313002 x313003 x313004 x313005 x313006 = if x5 < (x311003.length : Int) then ((some (([] : List Int) : List Int)).bind fun y332 => (if 0 ≤ x5 then (if y332.length + (rd_L3 x311003 x5).length < 17592186044416 then (if x313003.length < 5864062014805 then (berthref20_Copy.l1 k (wrap64 (x5 + 1)) x311000 x311001 x311002 x311003 x311004 x311005 x311006 x313000 x313001 x313002 (x313003 ++ [(y332 ++ (rd_L3 x311003 x5))]) x313004 x313005 x313006) else (none)) else (none)) else (none))) else (some (x313000, x313001, x313002, x313003, x313004, x313005, x313006)) := rfl
structure Small (g : Pg) : Prop where
  T : g.T.length < 8388608
  N : g.N.length < 8388608
  S : g.S.length < 8388608
  M : g.M.length < 8388608
  C : g.C.length < 8388608
  SS : ∀ x ∈ g.S, x.length < 8388608
  MM : ∀ x ∈ g.M, x.length < 8388608
theorem wrap_plus (n m B : Nat) (hn : n ≤ 1125899906842624) (hm : m ≤ 140737488351232) : wrap64 ((n : Int) + (m : Int)) = ((n + m : Nat) : Int) := by rw [wrap_ _ (by omega) (by omega)]; omega
theorem wrap_next' (i n : Nat) (h : i < n) (hn : n ≤ 140737488351232) : wrap64 ((i : Int) + 1) = ((i + 1 : Nat) : Int) := by rw [wrap_ _ (by omega) (by omega)]; omega
theorem mem_drop_step {α : Type} {P : α → Prop} {l : List α} {i : Nat} (h : i < l.length) (h0 : P l[i]) (h1 : ∀ x ∈ l.drop (i + 1), P x) : ∀ x ∈ l.drop i, P x := by
 rw [List.drop_eq_getElem_cons h]
 intro x hx
 rcases List.mem_cons.1 hx with rfl | hx
 ·
  exact h0
 ·
  exact h1 x hx
section
variable (T : List ByteArray) (N : List Int) (S : List (List ByteArray)) (M : List (List Int)) (C : List S74) (d l : Int)
theorem small_l1 (hlM : M.length ≤ 140737488351232) (hb : ∀ x ∈ M, x.length ≤ 140737488351232) : ∀ (r i n k : Nat), M.length - i = r → r < k → n ≤ 1125899906842624 → ∃ b, berthlaw20_small.l1 k n i T N S M C d l = some b ∧ (b = true → n < 8388608 ∧ ∀ x ∈ M.drop i, x.length < 8388608) := by
 intro r
 induction r with
 | zero =>
  intro i n k hn hk h0
  obtain ⟨k, rfl⟩ : ∃ m, k = m + 1 := ⟨k - 1, by omega⟩
  rw [small_l1_succ, if_neg (by omega), List.drop_eq_nil_of_le (by omega)]
  exact ⟨_, rfl, fun h => ⟨by have := of_decide_eq_true h; omega, fun x hx => by cases hx⟩⟩
 | succ r ih =>
  intro i n k hn hk h0
  obtain ⟨k, rfl⟩ : ∃ m, k = m + 1 := ⟨k - 1, by omega⟩
  have hlt : i < M.length := by omega
  have b0 := hb _ (List.getElem_mem hlt)
  have e0 : rd_L3 M (i : Int) = M[i] := by simp [rd_L3, hlt]
  rw [small_l1_succ, if_pos (Int.ofNat_lt.2 hlt), e0]
  clear e0
  by_cases hs : n < 8388608
  ·
   rw [if_pos (by omega), if_pos (Int.natCast_nonneg _), wrap_plus n M[i].length 0 h0 b0, wrap_next' i _ hlt hlM]
   obtain ⟨b, h1, h2⟩ := ih (i + 1) (n + M[i].length) k (by omega) (by omega) (by omega)
   refine ⟨b, h1, fun hh => ⟨hs, mem_drop_step hlt ?_ (h2 hh).2⟩⟩
   have := (h2 hh).1
   omega
  ·
   rw [if_neg (by omega)]
   exact ⟨_, rfl, fun h => absurd (of_decide_eq_true h) (by omega)⟩
theorem small_l0 (hlM : M.length ≤ 140737488351232) (hb : ∀ x ∈ M, x.length ≤ 140737488351232) (hlS : S.length ≤ 140737488351232) (hs : ∀ x ∈ S, x.length ≤ 140737488351232) : ∀ (r i n k : Nat), S.length - i = r → r + M.length + 2 < k → n ≤ 1125899906842624 → ∃ b, berthlaw20_small.l0 k n i T N S M C d l = some b ∧ (b = true → n < 8388608 ∧ (∀ x ∈ S.drop i, x.length < 8388608) ∧ ∀ x ∈ M, x.length < 8388608) := by
 intro r
 induction r with
 | zero =>
  intro i n k hn hk h0
  obtain ⟨k, rfl⟩ : ∃ m, k = m + 2 := ⟨k - 2, by omega⟩
  rw [small_l0_succ, if_neg (by omega), small_j1_succ, List.drop_eq_nil_of_le (by omega)]
  obtain ⟨b, h1, h2⟩ := small_l1 T N S M C d l hlM hb M.length 0 n k (by omega) (by omega) h0
  exact ⟨b, h1, fun h => ⟨(h2 h).1, (fun x hx => by cases hx), (h2 h).2⟩⟩
 | succ r ih =>
  intro i n k hn hk h0
  obtain ⟨k, rfl⟩ : ∃ m, k = m + 2 := ⟨k - 2, by omega⟩
  have hlt : i < S.length := by omega
  have b0 := hs _ (List.getElem_mem hlt)
  have e0 : rd_L2 S (i : Int) = S[i] := by simp [rd_L2, hlt]
  rw [small_l0_succ, if_pos (Int.ofNat_lt.2 hlt), e0]
  clear e0
  by_cases hs : n < 8388608
  ·
   rw [if_pos (by omega), if_pos (Int.natCast_nonneg _), wrap_plus n S[i].length 0 h0 b0, wrap_next' i _ hlt hlS]
   obtain ⟨b, h1, h2⟩ := ih (i + 1) (n + S[i].length) (k + 1) (by omega) (by omega) (by omega)
   refine ⟨b, h1, fun hh => ⟨hs, mem_drop_step hlt ?_ (h2 hh).2.1, (h2 hh).2.2⟩⟩
   have := (h2 hh).1
   omega
  ·
   rw [if_neg (by omega), small_j1_succ]
   obtain ⟨b, h1, h2⟩ := small_l1 T N S M C d l hlM hb M.length 0 n k (by omega) (by omega) h0
   exact ⟨b, h1, fun h => absurd (h2 h).1 hs⟩
theorem copy_l1 (T2 : List ByteArray) (N2 : List Int) (S2 : List (List ByteArray)) (C2 : List S74) (d2 l2 : Int) (hlM : M.length < 8388608) (hb : ∀ x ∈ M, x.length < 8388608) : ∀ (r i k : Nat), M.length - i = r → r < k → i ≤ M.length → berthref20_Copy.l1 k i T N S M C d l T2 N2 S2 (M.take i) C2 d2 l2 = some (T2, N2, S2, M, C2, d2, l2) := by
  intro r
  induction r with
  | zero =>
    intro i k hn hk hi
    obtain ⟨k, rfl⟩ : ∃ m, k = m + 1 := ⟨k - 1, by omega⟩
    rw [Copy_l1_succ, if_neg (by omega), List.take_of_length_le (by omega)]
  | succ r ih =>
    intro i k hn hk hi
    obtain ⟨k, rfl⟩ : ∃ m, k = m + 1 := ⟨k - 1, by omega⟩
    have hlt : i < M.length := by omega
    have b0 := hb _ (List.getElem_mem hlt)
    have IH := ih (i + 1) k (by omega) (by omega) (by omega)
    clear ih
    have e0 : rd_L3 M (i : Int) = M[i] := by simp [rd_L3, hlt]
    have et : (M.take i).length = i := by rw [List.length_take]; omega
    rw [Copy_l1_succ, if_pos (Int.ofNat_lt.2 hlt), e0, Option.bind_some, if_pos (Int.natCast_nonneg _), et, if_pos (by simp only [List.length_nil]; omega), if_pos (by omega), wrap_next' i _ hlt (by omega), List.nil_append, List.take_append_getElem hlt]
    exact IH
theorem copy_l0 (T2 : List ByteArray) (N2 : List Int) (C2 : List S74) (d2 l2 : Int) (hlM : M.length < 8388608) (hb : ∀ x ∈ M, x.length < 8388608) (hlS : S.length < 8388608) (hs : ∀ x ∈ S, x.length < 8388608) : ∀ (r i k : Nat), S.length - i = r → r + M.length + 1 < k → i ≤ S.length → berthref20_Copy.l0 k i T N S M C d l T2 N2 (S.take i) C2 d2 l2 = some (T2, N2, S, M, C2, d2, l2) := by
  intro r
  induction r with
  | zero =>
    intro i k hn hk hi
    obtain ⟨k, rfl⟩ : ∃ m, k = m + 1 := ⟨k - 1, by omega⟩
    rw [Copy_l0_succ, if_neg (by omega), List.take_of_length_le (by omega)]
    exact copy_l1 T N S M C d l T2 N2 S C2 d2 l2 hlM hb M.length 0 k (by omega) (by omega) (by omega)
  | succ r ih =>
    intro i k hn hk hi
    obtain ⟨k, rfl⟩ : ∃ m, k = m + 1 := ⟨k - 1, by omega⟩
    have hlt : i < S.length := by omega
    have b0 := hs _ (List.getElem_mem hlt)
    have IH := ih (i + 1) k (by omega) (by omega) (by omega)
    clear ih
    have e0 : rd_L2 S (i : Int) = S[i] := by simp [rd_L2, hlt]
    have et : (S.take i).length = i := by rw [List.length_take]; omega
    rw [Copy_l0_succ, if_pos (Int.ofNat_lt.2 hlt), e0, Option.bind_some, if_pos (Int.natCast_nonneg _), et, if_pos (by simp only [List.length_nil]; omega), if_pos (by omega), wrap_next' i _ hlt (by omega), List.nil_append, List.take_append_getElem hlt]
    exact IH
end
theorem small_f (g : Pg) (f : Fits g) : ∃ k b, berthlaw20_small.f k g.T g.N g.S g.M g.C g.dep g.loc = some b ∧ (b = true → Small g) := by
 obtain ⟨f1, f2, f3, f4, f5, f6, f7⟩ := f
 have e1 := wrap_plus g.T.length g.N.length 0 (by omega) f2
 have e2 := wrap_plus (g.T.length + g.N.length) g.S.length 0 (by omega) f3
 have e3 := wrap_plus (g.T.length + g.N.length + g.S.length) g.M.length 0 (by omega) f4
 have e4 := wrap_plus (g.T.length + g.N.length + g.S.length + g.M.length) g.C.length 0 (by omega) f5
 obtain ⟨b, h1, h2⟩ := small_l0 g.T g.N g.S g.M g.C g.dep g.loc f4 f7 f3 f6 g.S.length 0 (g.T.length + g.N.length + g.S.length + g.M.length + g.C.length) (g.S.length + g.M.length + 3) (by omega) (by omega) (by omega)
 refine ⟨g.S.length + g.M.length + 3, b, ?_, fun h => ?_⟩
 ·
  unfold berthlaw20_small.f
  rw [e1, e2, e3, e4]
  exact h1
 ·
  obtain ⟨q1, q2, q3⟩ := h2 h
  exact ⟨by omega, by omega, by omega, by omega, by omega, q2, q3⟩
theorem copy_f (g : Pg) (f : Small g) : ∃ k, berthref20_Copy.f k g.T g.N g.S g.M g.C g.dep g.loc = some (g.T, g.N, g.S, g.M, g.C, g.dep, g.loc) := by
 obtain ⟨f1, f2, f3, f4, f5, f6, f7⟩ := f
 have h := copy_l0 g.T g.N g.S g.M g.C g.dep g.loc g.T g.N g.C g.dep g.loc f4 f7 f3 f6 g.S.length 0 (g.S.length + g.M.length + 2) (by omega) (by omega) (by omega)
 refine ⟨g.S.length + g.M.length + 2, ?_⟩
 ·
  unfold berthref20_Copy.f
  rw [if_pos (by simp only [List.length_nil]; omega), if_pos (by simp only [List.length_nil]; omega), if_pos (by simp only [List.length_nil]; omega)]
  exact h
end Go.Proofs.Ytlocnfkkfpfpfaa.D
