/- formed: the plain test, and the walks of rises at its four types. -/
import Derived.Test.YtlocnfkkfpfpfaazCDm6
import Derived.Test.YtlocnfkkfpfpfaazCDm8
namespace Go.Proofs.Ytlocnfkkfpfpfaa.D
open Go.RowKit Go.Proofs.YtlocnfkkfpfpfaaW.PrintWords Go.Proofs.YtlocnfkkfpfpfaaW.PrintLast Go.Proofs.YtlocnfkkfpfpfaaW.PrintMore Go.Proofs.Ytlocnfkkfpfpfaa.Six
set_option linter.unusedSimpArgs false
set_option linter.unusedVariables false
def risesB {α : Type} (cmp : α → α → Int) (ok : α → Bool) : Option α → List α → Bool
  | _, [] => true
  | none, x :: l => ok x && risesB cmp ok (some x) l
  | some y, x :: l => ok x && !decide (0 ≤ cmp y x) && risesB cmp ok (some x) l
def okS (s : ByteArray) : Bool := decide (s.size ≤ 127)
def okI (n : Int) : Bool := decide (-1000000000000000000 ≤ n ∧ n ≤ 1000000000000000000)
def okSS (l : List ByteArray) : Bool := decide (1 ≤ l.length ∧ l.length ≤ 1000) && risesB cmpS okS none l
def okII (l : List Int) : Bool := decide (1 ≤ l.length ∧ l.length ≤ 1000) && risesB cmpI okI none l
theorem risesB_at {α : Type} (cmp : α → α → Int) (ok : α → Bool) (l : List α) (i : Nat) (h : i < l.length) :
 risesB cmp ok (if i = 0 then none else l[i - 1]?) (l.drop i) = (ok l[i] && (if i = 0 then true else !decide (0 ≤ cmp (l[i - 1]'(by omega)) l[i])) && risesB cmp ok (if i + 1 = 0 then none else l[i + 1 - 1]?) (l.drop (i + 1))) := by
 rw [List.drop_eq_getElem_cons h]
 have e : l[i + 1 - 1]? = some l[i] := by simp [h]
 by_cases h0 : i = 0
 ·
  subst h0
  simp [risesB, h]
 ·
  have e2 : l[i - 1]? = some (l[i - 1]'(by omega)) := List.getElem?_eq_getElem (by omega)
  rw [if_neg h0, if_neg h0, if_neg (by omega), e2, e]
  rfl
theorem risesB_end {α : Type} (cmp : α → α → Int) (ok : α → Bool) (l : List α) (i : Nat) (h : l.length ≤ i) (p : Option α) : risesB cmp ok p (l.drop i) = true := by
  rw [List.drop_eq_nil_of_le h]
  cases p <;> rfl
theorem wrap_ (n : Int) (h : -9223372036854775808 ≤ n) (h2 : n ≤ 9223372036854775807) : wrap64 n = n := IntWalk.wrap64_in n ⟨h, h2⟩
theorem rises53_l (l : List ByteArray) (hl : l.length ≤ 9223372036854775807) : ∀ (k i : Nat), l.length - i < k → i ≤ l.length → code_rises_string_53.l0 k l l (l.length : Int) i = some (risesB cmpS okS (if i = 0 then none else l[i - 1]?) (l.drop i))
 | 0, i, h, _ => by omega
 | k + 1, i, hk, hi => by
  unfold code_rises_string_53.l0
  by_cases hlt : i < l.length
  ·
   rw [if_pos (by omega), if_pos (by omega), if_pos (by omega), risesB_at cmpS okS l i hlt]
   have e0 : rdOf ByteArray.empty l (i : Int) = l[i] := by simp [rdOf, hlt]
   rw [e0]
   have es : code_shortText.f l[i] = some (okS l[i]) := by
    unfold code_shortText.f okS
    congr 1
    rw [decide_eq_decide]
    omega
   rw [es, Option.bind_some]
   have ew : wrap64 ((i : Int) + 1) = ((i + 1 : Nat) : Int) := by rw [wrap_ _ (by omega) (by omega)]; omega
   by_cases ho : okS l[i] = true
   ·
    rw [if_pos ho, ew]
    by_cases h0 : i = 0
    ·
     subst h0
     rw [if_neg (by omega), rises53_l l hl k 1 (by omega) (by omega)]
     simp [ho]
    ·
     have ew2 : wrap64 ((i : Int) - 1) = ((i - 1 : Nat) : Int) := by rw [wrap_ _ (by omega) (by omega)]; omega
     have e1 : rdOf ByteArray.empty l ((i - 1 : Nat) : Int) = l[i - 1]'(by omega) := by simp [rdOf, show i - 1 < l.length by omega]
     rw [if_pos (by omega), ew2, if_pos (by omega), if_pos (by omega), e1, cmpS_f, Option.bind_some, if_neg h0]
     by_cases hc : 0 ≤ cmpS (l[i - 1]'(by omega)) l[i]
     ·
      rw [if_pos hc]; simp [hc]
     ·
      rw [if_neg hc, rises53_l l hl k (i + 1) (by omega) (by omega)]
      simp [ho, hc]
   ·
    rw [if_neg ho]; simp [ho]
  ·
   rw [if_neg (by omega), risesB_end _ _ _ _ (by omega)]
theorem rises57_l (l : List Int) (hl : l.length ≤ 9223372036854775807) : ∀ (k i : Nat), l.length - i < k → i ≤ l.length → code_rises_int_57.l0 k l l (l.length : Int) i = some (risesB cmpI okI (if i = 0 then none else l[i - 1]?) (l.drop i))
 | 0, i, h, _ => by omega
 | k + 1, i, hk, hi => by
  unfold code_rises_int_57.l0
  by_cases hlt : i < l.length
  ·
   rw [if_pos (by omega), if_pos (by omega), if_pos (by omega), risesB_at cmpI okI l i hlt]
   have e0 : rd l (i : Int) = l[i] := by simp [rd, hlt]
   rw [e0]
   have es : code_shortNum.f l[i] = some (okI l[i]) := by
    unfold code_shortNum.f okI
    by_cases hz : l[i] ≥ -1000000000000000000
    ·
     rw [if_pos hz]
     congr 1
     rw [decide_eq_decide]
     omega
    ·
     rw [if_neg hz]
     congr 1
     symm
     rw [decide_eq_false_iff_not]
     omega
   rw [es, Option.bind_some]
   have ew : wrap64 ((i : Int) + 1) = ((i + 1 : Nat) : Int) := by rw [wrap_ _ (by omega) (by omega)]; omega
   by_cases ho : okI l[i] = true
   ·
    rw [if_pos ho, ew]
    by_cases h0 : i = 0
    ·
     subst h0
     rw [if_neg (by omega), rises57_l l hl k 1 (by omega) (by omega)]
     simp [ho]
    ·
     have ew2 : wrap64 ((i : Int) - 1) = ((i - 1 : Nat) : Int) := by rw [wrap_ _ (by omega) (by omega)]; omega
     have e1 : rd l ((i - 1 : Nat) : Int) = l[i - 1]'(by omega) := by simp [rd, show i - 1 < l.length by omega]
     rw [if_pos (by omega), ew2, if_pos (by omega), if_pos (by omega), e1, cmpI_f, Option.bind_some, if_neg h0]
     by_cases hc : 0 ≤ cmpI (l[i - 1]'(by omega)) l[i]
     ·
      rw [if_pos hc]; simp [hc]
     ·
      rw [if_neg hc, rises57_l l hl k (i + 1) (by omega) (by omega)]
      simp [ho, hc]
   ·
    rw [if_neg ho]; simp [ho]
  ·
   rw [if_neg (by omega), risesB_end _ _ _ _ (by omega)]
theorem formed1_f (l : List ByteArray) (hl : l.length ≤ 9223372036854775807) (k : Nat) (hk : l.length < k) : code_formed_1.f k l = some (okSS l) := by
 unfold code_formed_1.f okSS
 by_cases h1 : (l.length : Int) ≥ 1
 ·
  rw [if_pos h1]
  by_cases h2 : (l.length : Int) ≤ 1000
  ·
   have e := rises53_l l hl k 0 (by omega) (by omega)
   unfold code_rises_string_53.f
   rw [if_pos h2, show (0 : Int) = ((0 : Nat) : Int) from rfl, e, Option.bind_some, if_pos rfl, List.drop_zero, decide_eq_true (by omega : 1 ≤ l.length ∧ l.length ≤ 1000), Bool.true_and]
  ·
   rw [if_neg h2, decide_eq_false (by omega : ¬(1 ≤ l.length ∧ l.length ≤ 1000)), Bool.false_and]
 ·
  rw [if_neg h1, decide_eq_false (by omega : ¬(1 ≤ l.length ∧ l.length ≤ 1000)), Bool.false_and]
theorem formed2_f (l : List Int) (hl : l.length ≤ 9223372036854775807) (k : Nat) (hk : l.length < k) : code_formed_2.f k l = some (okII l) := by
 unfold code_formed_2.f okII
 by_cases h1 : (l.length : Int) ≥ 1
 ·
  rw [if_pos h1]
  by_cases h2 : (l.length : Int) ≤ 1000
  ·
   have e := rises57_l l hl k 0 (by omega) (by omega)
   unfold code_rises_int_57.f
   rw [if_pos h2, show (0 : Int) = ((0 : Nat) : Int) from rfl, e, Option.bind_some, if_pos rfl, List.drop_zero, decide_eq_true (by omega : 1 ≤ l.length ∧ l.length ≤ 1000), Bool.true_and]
  ·
   rw [if_neg h2, decide_eq_false (by omega : ¬(1 ≤ l.length ∧ l.length ≤ 1000)), Bool.false_and]
 ·
  rw [if_neg h1, decide_eq_false (by omega : ¬(1 ≤ l.length ∧ l.length ≤ 1000)), Bool.false_and]
theorem rises60_l (l : List (List ByteArray)) (hl : l.length ≤ 9223372036854775807) (B : Nat) (hB2 : B ≤ 9223372036854775807) (hB : ∀ x ∈ l, x.length < B) : ∀ (k i : Nat), l.length - i + B < k → i ≤ l.length → code_rises_string_60.l0 k l l (l.length : Int) i = some (risesB (cmpL cmpS) okSS (if i = 0 then none else l[i - 1]?) (l.drop i))
 | 0, i, h, _ => by omega
 | k + 1, i, hk, hi => by
  unfold code_rises_string_60.l0
  by_cases hlt : i < l.length
  ·
   rw [if_pos (by omega), if_pos (by omega), if_pos (by omega), risesB_at (cmpL cmpS) okSS l i hlt]
   have e0 : rd_L2 l (i : Int) = l[i] := by simp [rd_L2, hlt]
   have hb : l[i].length < B := hB _ (List.getElem_mem hlt)
   rw [e0]
   have es : code_formed_1.f k l[i] = some (okSS l[i]) := formed1_f _ (by omega) k (by omega)
   rw [es, Option.bind_some]
   have ew : wrap64 ((i : Int) + 1) = ((i + 1 : Nat) : Int) := by rw [wrap_ _ (by omega) (by omega)]; omega
   by_cases ho : okSS l[i] = true
   ·
    rw [if_pos ho, ew]
    by_cases h0 : i = 0
    ·
     subst h0
     rw [if_neg (by omega), rises60_l l hl B hB2 hB k 1 (by omega) (by omega)]
     simp [ho]
    ·
     have ew2 : wrap64 ((i : Int) - 1) = ((i - 1 : Nat) : Int) := by rw [wrap_ _ (by omega) (by omega)]; omega
     have e1 : rd_L2 l ((i - 1 : Nat) : Int) = l[i - 1]'(by omega) := by simp [rd_L2, show i - 1 < l.length by omega]
     have hb1 : (l[i - 1]'(by omega)).length < B := hB _ (List.getElem_mem (by omega))
     have ec : slices_Compare_string_string.f k (l[i - 1]'(by omega)) l[i] = some (cmpL cmpS (l[i - 1]'(by omega)) l[i]) := cmpLS_l _ _ (by omega) k 0 (by omega) (by omega) (by omega)
     rw [if_pos (by omega), ew2, if_pos (by omega), if_pos (by omega), e1, ec, Option.bind_some, if_neg h0]
     by_cases hc : 0 ≤ cmpL cmpS (l[i - 1]'(by omega)) l[i]
     ·
      rw [if_pos hc]; simp [hc]
     ·
      rw [if_neg hc, rises60_l l hl B hB2 hB k (i + 1) (by omega) (by omega)]
      simp [ho, hc]
   ·
    rw [if_neg ho]; simp [ho]
  ·
   rw [if_neg (by omega), risesB_end _ _ _ _ (by omega)]
theorem rises62_l (l : List (List Int)) (hl : l.length ≤ 9223372036854775807) (B : Nat) (hB2 : B ≤ 9223372036854775807) (hB : ∀ x ∈ l, x.length < B) : ∀ (k i : Nat), l.length - i + B < k → i ≤ l.length → code_rises_int_62.l0 k l l (l.length : Int) i = some (risesB (cmpL cmpI) okII (if i = 0 then none else l[i - 1]?) (l.drop i))
 | 0, i, h, _ => by omega
 | k + 1, i, hk, hi => by
  unfold code_rises_int_62.l0
  by_cases hlt : i < l.length
  ·
   rw [if_pos (by omega), if_pos (by omega), if_pos (by omega), risesB_at (cmpL cmpI) okII l i hlt]
   have e0 : rd_L3 l (i : Int) = l[i] := by simp [rd_L3, hlt]
   have hb : l[i].length < B := hB _ (List.getElem_mem hlt)
   rw [e0]
   have es : code_formed_2.f k l[i] = some (okII l[i]) := formed2_f _ (by omega) k (by omega)
   rw [es, Option.bind_some]
   have ew : wrap64 ((i : Int) + 1) = ((i + 1 : Nat) : Int) := by rw [wrap_ _ (by omega) (by omega)]; omega
   by_cases ho : okII l[i] = true
   ·
    rw [if_pos ho, ew]
    by_cases h0 : i = 0
    ·
     subst h0
     rw [if_neg (by omega), rises62_l l hl B hB2 hB k 1 (by omega) (by omega)]
     simp [ho]
    ·
     have ew2 : wrap64 ((i : Int) - 1) = ((i - 1 : Nat) : Int) := by rw [wrap_ _ (by omega) (by omega)]; omega
     have e1 : rd_L3 l ((i - 1 : Nat) : Int) = l[i - 1]'(by omega) := by simp [rd_L3, show i - 1 < l.length by omega]
     have hb1 : (l[i - 1]'(by omega)).length < B := hB _ (List.getElem_mem (by omega))
     have ec : slices_Compare_int_int.f k (l[i - 1]'(by omega)) l[i] = some (cmpL cmpI (l[i - 1]'(by omega)) l[i]) := cmpLI_l _ _ (by omega) k 0 (by omega) (by omega) (by omega)
     rw [if_pos (by omega), ew2, if_pos (by omega), if_pos (by omega), e1, ec, Option.bind_some, if_neg h0]
     by_cases hc : 0 ≤ cmpL cmpI (l[i - 1]'(by omega)) l[i]
     ·
      rw [if_pos hc]; simp [hc]
     ·
      rw [if_neg hc, rises62_l l hl B hB2 hB k (i + 1) (by omega) (by omega)]
      simp [ho, hc]
   ·
    rw [if_neg ho]; simp [ho]
  ·
   rw [if_neg (by omega), risesB_end _ _ _ _ (by omega)]
end Go.Proofs.Ytlocnfkkfpfpfaa.D
