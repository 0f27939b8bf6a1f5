/- The plain side: counts there and back. No Go in sight. -/
import Derived.Test.YtlocnfkkfpfpfaazCDm14
namespace Go.Proofs.Ytlocnfkkfpfpfaa.D
open Go.RowKit Go.Proofs.YtlocnfkkfpfpfaaW.PrintWords Go.Proofs.YtlocnfkkfpfpfaaW.PrintLast Go.Proofs.YtlocnfkkfpfpfaaW.PrintMore Go.Proofs.Ytlocnfkkfpfpfaa.Six
set_option linter.unusedSimpArgs false
set_option linter.unusedVariables false
def At (bs : List Int) (p : Int) (l : List Int) : Prop := ∃ pre post, bs = pre ++ l ++ post ∧ (pre.length : Int) = p
theorem At.head {bs : List Int} {p a : Int} {l : List Int} (h : At bs p (a :: l)) : bs.getD p.toNat 0 = a ∧ p < bs.length ∧ 0 ≤ p ∧ At bs (p + 1) l := by
  obtain ⟨pre, post, rfl, rfl⟩ := h
  refine ⟨by simp, by simp; omega, by omega, pre ++ [a], post, by simp, by simp⟩
theorem At.cons {bs : List Int} {p : Int} {l : List Int} (h0 : 0 ≤ p) (h1 : p < bs.length) (h : At bs (p + 1) l) : At bs p (bs.getD p.toNat 0 :: l) := by
  obtain ⟨pre, post, e, hp⟩ := h
  have hne : pre ≠ [] := by rintro rfl; simp at hp; omega
  have hd : pre = pre.dropLast ++ [pre.getLast hne] := (List.dropLast_concat_getLast hne).symm
  have hl : (pre.dropLast.length : Int) = p := by
    have : pre.dropLast.length = pre.length - 1 := List.length_dropLast
    have : 0 < pre.length := List.length_pos_iff.2 hne
    omega
  refine ⟨pre.dropLast, post, ?_, hl⟩
  have hg : bs.getD p.toNat 0 = pre.getLast hne := by
    have e2 : bs = pre.dropLast ++ (pre.getLast hne :: (l ++ post)) := by rw [e]; conv => lhs; rw [hd]; simp
    rw [e2, ← hl, Int.toNat_natCast]
    simp
  rw [hg, e]
  conv => lhs; rw [hd]
  simp
theorem At.nil {bs : List Int} {p : Int} (h0 : 0 ≤ p) (h1 : p ≤ bs.length) : At bs p [] := ⟨bs.take p.toNat, bs.drop p.toNat, by simp, by rw [List.length_take]; omega⟩
theorem At.split {bs : List Int} {p : Int} {l m : List Int} (h : At bs p (l ++ m)) : At bs p l ∧ At bs (p + l.length) m := by
  obtain ⟨pre, post, rfl, rfl⟩ := h
  exact ⟨⟨pre, m ++ post, by simp, rfl⟩, ⟨pre ++ l, post, by simp, by simp⟩⟩
theorem At.join {bs : List Int} {p : Int} {l m : List Int} (h : At bs p l) (k : At bs (p + l.length) m) : At bs p (l ++ m) := by
  obtain ⟨pre, post, rfl, rfl⟩ := h
  obtain ⟨pre2, post2, e, hp⟩ := k
  have e1 : pre2 = pre ++ l := by
    have := congrArg (List.take (pre ++ l).length) e
    rw [List.take_left, List.append_assoc pre2, ← List.append_assoc] at this
    have hlen : pre2.length = (pre ++ l).length := by rw [List.length_append]; omega
    rw [← hlen, List.append_assoc, List.take_left] at this
    exact this.symm
  subst e1
  exact ⟨pre, post2, by simpa using e, rfl⟩
theorem At.le {bs : List Int} {p : Int} {l : List Int} (h : At bs p l) : 0 ≤ p ∧ p + l.length ≤ bs.length := by
  obtain ⟨pre, post, rfl, rfl⟩ := h
  simp
  omega
theorem countL_rt (bs : List Int) (frm lo hi : Int) : ∀ (F i : Nat) (p m n : Int), i + F = 9 → 0 ≤ n → n < 128 ^ F → (n = 0 → i = 0) → At bs p (cntF F n) → lo ≤ m + n * 128 ^ i → m + n * 128 ^ i ≤ hi → countL bs frm lo hi F i p m = .ok (m + n * 128 ^ i, p + (cntF F n).length)
 | 0, i, p, m, n, hi9, h0, h1, hz, hA, hlo, hhi => by
  have : n < 1 := h1
  have := hz (by omega)
  omega
 | F + 1, i, p, m, n, hi9, h0, h1, hz, hA, hlo, hhi => by
  by_cases hc : 128 ≤ n
  ·
   have ec : cntF (F + 1) n = (n % 128 + 128) :: cntF F (n / 128) := by rw [cntF, if_pos hc]
   rw [ec] at hA ⊢
   obtain ⟨g1, g2, g3, g4⟩ := hA.head
   have hpow : n / 128 < 128 ^ F := by
    rw [Int.pow_succ] at h1
    exact Int.ediv_lt_of_lt_mul (by omega) h1
   have hi8 : ¬ i = 8 := by
    rintro rfl
    have : F = 0 := by omega
    subst this
    have : n / 128 < 1 := hpow
    omega
   have em : m + (n % 128 + 128) % 128 * 128 ^ i = m + n % 128 * 128 ^ i := by
    congr 2
    omega
   rw [countL_step bs frm lo hi F i p m _ _ g1 em, if_neg (by omega), if_neg (by omega), if_pos (by omega)]
   have esum : m + n % 128 * 128 ^ i + n / 128 * 128 ^ (i + 1) = m + n * 128 ^ i := by
    have hn : n = n % 128 + n / 128 * 128 := by omega
    rw [Int.pow_succ]
    conv => rhs; rw [hn]
    rw [Int.add_mul, Int.mul_assoc, Int.mul_comm 128, Int.add_assoc]
   rw [countL_rt bs frm lo hi F (i + 1) (p + 1) _ (n / 128) (by omega) (by omega) hpow (by omega) g4 (by rw [esum]; exact hlo) (by rw [esum]; exact hhi), esum]
   congr 2
   simp only [List.length_cons]
   omega
  ·
   have ec : cntF (F + 1) n = [n] := by
    rw [cntF, if_neg hc]
    congr 1
    omega
   rw [ec] at hA ⊢
   obtain ⟨g1, g2, g3, g4⟩ := hA.head
   have em : m + n % 128 * 128 ^ i = m + n * 128 ^ i := by
    congr 2
    omega
   rw [countL_step bs frm lo hi F i p m _ _ g1 em, if_neg (by omega), if_neg (by omega), if_neg (by omega), if_neg (fun h => by have := hz h.1; omega), if_neg (by omega)]
   rfl
theorem countF_rt {bs : List Int} {p lo hi n : Int} (h0 : 0 ≤ n) (h1 : n ≤ 2000000000000000000) (hlo : lo ≤ n) (hhi : n ≤ hi) (hA : At bs p (encCount n)) : countF bs p lo hi = .ok (n, p + (encCount n).length) := by
  have h128 : (128 : Int) ^ 9 = 9223372036854775808 := by decide
  have := countL_rt bs p lo hi 9 0 p 0 n rfl h0 (by omega) (fun _ => rfl) hA (by simpa using hlo) (by simpa using hhi)
  unfold countF encCount
  rw [this]
  simp
theorem countL_of (bs : List Int) (hb : ∀ x ∈ bs, 0 ≤ x ∧ x ≤ 255) (frm lo hi : Int) : ∀ (F i : Nat) (p m x q : Int), i + F = 9 → 0 ≤ p → countL bs frm lo hi F i p m = .ok (x, q) → ∃ n, 0 ≤ n ∧ n < 128 ^ F ∧ (n = 0 → i = 0) ∧ x = m + n * 128 ^ i ∧ At bs p (cntF F n) ∧ q = p + (cntF F n).length
 | 0, i, p, m, x, q, _, _, h => by simp [countL] at h
 | F + 1, i, p, m, x, q, hi9, hp, h => by
  rw [countL_step bs frm lo hi F i p m _ _ rfl rfl] at h
  by_cases hend : (bs.length : Int) ≤ p
  ·
   rw [if_pos hend] at h; simp at h
  rw [if_neg hend] at h
  have hc := hb (bs.getD p.toNat 0) (by rw [List.getD_eq_getElem?_getD, List.getElem?_eq_getElem (by omega)]; simp)
  by_cases h8 : i = 8 ∧ 128 ≤ bs.getD p.toNat 0
  ·
   rw [if_pos h8] at h; simp at h
  rw [if_neg h8] at h
  by_cases hge : 128 ≤ bs.getD p.toNat 0
  ·
   rw [if_pos hge] at h
   obtain ⟨n, n0, n1, n2, n3, n4, n5⟩ := countL_of bs hb frm lo hi F (i + 1) (p + 1) _ x q (by omega) (by omega) h
   have hn0 : n ≠ 0 := fun e => by have := n2 e; omega
   have hdiv : (bs.getD p.toNat 0 % 128 + n * 128) / 128 = n := by omega
   have hmod : (bs.getD p.toNat 0 % 128 + n * 128) % 128 + 128 = bs.getD p.toNat 0 := by omega
   have ec : cntF (F + 1) (bs.getD p.toNat 0 % 128 + n * 128) = bs.getD p.toNat 0 :: cntF F n := by rw [cntF, if_pos (by omega), hdiv, hmod]
   refine ⟨bs.getD p.toNat 0 % 128 + n * 128, by omega, ?_, by omega, ?_, ?_, ?_⟩
   ·
    rw [Int.pow_succ]
    omega
   ·
    rw [n3, Int.pow_succ, Int.add_mul, Int.mul_assoc n 128, Int.mul_comm 128, Int.add_assoc]
   ·
    rw [ec]
    exact n4.cons hp (by omega)
   ·
    rw [ec, n5]
    simp only [List.length_cons]
    omega
  rw [if_neg hge] at h
  by_cases hz : bs.getD p.toNat 0 = 0 ∧ 0 < i
  ·
   rw [if_pos hz] at h; simp at h
  rw [if_neg hz] at h
  split at h
  ·
   simp at h
  simp only [Except.ok.injEq, Prod.mk.injEq] at h
  have ec : cntF (F + 1) (bs.getD p.toNat 0) = [bs.getD p.toNat 0] := by
   rw [cntF, if_neg hge]
   congr 1
   omega
  refine ⟨bs.getD p.toNat 0, hc.1, ?_, by omega, ?_, ?_, ?_⟩
  ·
   have : (0 : Int) < 128 ^ F := Int.pow_pos (by omega)
   rw [Int.pow_succ]
   omega
  ·
   rw [← h.1]
   congr 2
   omega
  ·
   rw [ec]
   exact (At.nil (by omega) (by omega)).cons hp (by omega)
  ·
   rw [ec, ← h.2]
   rfl
theorem countF_of {bs : List Int} (hb : ∀ x ∈ bs, 0 ≤ x ∧ x ≤ 255) {p lo hi x q : Int} (hp : 0 ≤ p) (h : countF bs p lo hi = .ok (x, q)) : 0 ≤ x ∧ lo ≤ x ∧ x ≤ hi ∧ At bs p (encCount x) ∧ q = p + (encCount x).length := by
  obtain ⟨n, n0, n1, n2, n3, n4, n5⟩ := countL_of bs hb p lo hi 9 0 p 0 x q rfl hp h
  have hx : x = n := by rw [n3]; simp
  subst hx
  have := countF_ok h
  exact ⟨n0, this.1, this.2.1, n4, n5⟩
def Ext {α : Type} (f : List Int → Int → Except (Int × Int) (α × Int)) : Prop := ∀ bs more p, 0 ≤ p → f bs p = .error (201, (bs.length : Int)) ∨ f (bs ++ more) p = f bs p
theorem countL_ext (bs more : List Int) (frm lo hi : Int) : ∀ (F i : Nat) (p m : Int), 0 ≤ p → countL bs frm lo hi F i p m = .error (201, (bs.length : Int)) ∨ countL (bs ++ more) frm lo hi F i p m = countL bs frm lo hi F i p m
 | 0, i, p, m, _ => .inr rfl
 | F + 1, i, p, m, hp => by
  by_cases hend : (bs.length : Int) ≤ p
  ·
   left
   rw [countL_step bs frm lo hi F i p m _ _ rfl rfl, if_pos hend]
  ·
   have hg : (bs ++ more).getD p.toNat 0 = bs.getD p.toNat 0 := by
    rw [List.getD_eq_getElem?_getD, List.getD_eq_getElem?_getD, List.getElem?_append_left (by omega)]
   have hend2 : ¬ ((bs ++ more).length : Int) ≤ p := by rw [List.length_append]; omega
   have e1 := countL_step (bs ++ more) frm lo hi F i p m _ _ hg rfl
   have e2 := countL_step bs frm lo hi F i p m _ _ rfl rfl
   rw [if_neg hend2] at e1
   rw [if_neg hend] at e2
   by_cases h8 : i = 8 ∧ 128 ≤ bs.getD p.toNat 0
   ·
    rw [if_pos h8] at e1 e2
    exact .inr (e1.trans e2.symm)
   rw [if_neg h8] at e1 e2
   by_cases hge : 128 ≤ bs.getD p.toNat 0
   ·
    rw [if_pos hge] at e1 e2
    rw [e1, e2]
    exact countL_ext bs more frm lo hi F (i + 1) (p + 1) _ (by omega)
   rw [if_neg hge] at e1 e2
   exact .inr (e1.trans e2.symm)
theorem countF_ext (lo hi : Int) : Ext (fun bs p => countF bs p lo hi) := fun bs more p hp => countL_ext bs more p lo hi 9 0 p 0 hp
end Go.Proofs.Ytlocnfkkfpfpfaa.D
