/- The reference's tests, plain: they are the code's. -/
import Derived.Test.YtlocnfkkfpfpfaazCEm22
import Derived.Test.YtlocnfkkfpfpfaazCEm23
import Derived.Test.YtlocnfkkfpfpfaazCEm24
namespace Go.Proofs.Ytlocnfkkfpfpfaa.D
open Go.RowKit Go.Proofs.YtlocnfkkfpfpfaaW.PrintWords Go.Proofs.YtlocnfkkfpfpfaaW.PrintLast Go.Proofs.YtlocnfkkfpfpfaaW.PrintMore Go.Proofs.Ytlocnfkkfpfpfaa.Six
set_option linter.unusedSimpArgs false
set_option linter.unusedVariables false
theorem textsFit_l0_succ (k : Nat) (x0 : List ByteArray) (x3 : Int) : berthref20_textsFit.l0 (k + 1) x0 x3 = if x3 < (x0.length : Int) then (if 0 ≤ x3 then (if ((rdOf ByteArray.empty x0 x3).size : Int) > 127 then (some false) else (if x3 > 0 then (if 0 ≤ (wrap64 (x3 - 1)) then (if (wrap64 (x3 - 1)) < (x0.length : Int) then (if ((Op.bytesLess ((rdOf ByteArray.empty x0 (wrap64 (x3 - 1))).toList) ((rdOf ByteArray.empty x0 x3).toList)) = true) then (berthref20_textsFit.l0 k x0 (wrap64 (x3 + 1))) else (some false)) else (none)) else (none)) else (berthref20_textsFit.l0 k x0 (wrap64 (x3 + 1))))) else (none)) else (some true) := rfl
theorem numsFit_l0_succ (k : Nat) (x0 : List Int) (x3 : Int) : berthref20_numsFit.l0 (k + 1) x0 x3 = if x3 < (x0.length : Int) then (if 0 ≤ x3 then (if (rd x0 x3) < (-1000000000000000000) then (some false) else (if (rd x0 x3) > 1000000000000000000 then (some false) else (if x3 > 0 then (if 0 ≤ (wrap64 (x3 - 1)) then (if (wrap64 (x3 - 1)) < (x0.length : Int) then (if (rd x0 (wrap64 (x3 - 1))) ≥ (rd x0 x3) then (some false) else (berthref20_numsFit.l0 k x0 (wrap64 (x3 + 1)))) else (none)) else (none)) else (berthref20_numsFit.l0 k x0 (wrap64 (x3 + 1)))))) else (none)) else (some true) := rfl
theorem cmpS_lt (a b : ByteArray) : (Op.bytesLess a.toList b.toList = true) ↔ ¬ 0 ≤ cmpS a b := by
 unfold cmpS
 split
 ·
  next h => simp [h]
 ·
  next h => split <;> simp [h]
theorem wrap_prev (i : Nat) (h : 0 < i) (hn : i ≤ 9223372036854775807) : wrap64 ((i : Int) - 1) = ((i - 1 : Nat) : Int) := by rw [wrap_ _ (by omega) (by omega)]; omega
theorem textsFit_l (l : List ByteArray) (hl : l.length ≤ 9223372036854775807) : ∀ (r i k : Nat), l.length - i = r → r < k → i ≤ l.length → berthref20_textsFit.l0 k l i = some (risesB cmpS okS (if i = 0 then none else l[i - 1]?) (l.drop i)) := by
 intro r
 induction r with
 | zero =>
  intro i k hr hk hi
  obtain ⟨k, rfl⟩ : ∃ m, k = m + 1 := ⟨k - 1, by omega⟩
  rw [textsFit_l0_succ, if_neg (by omega), risesB_end _ _ _ _ (by omega)]
 | succ r ih =>
  intro i k hr hk hi
  obtain ⟨k, rfl⟩ : ∃ m, k = m + 1 := ⟨k - 1, by omega⟩
  have hlt : i < l.length := by omega
  have IH := ih (i + 1) k (by omega) (by omega) (by omega)
  clear ih
  rw [textsFit_l0_succ, if_pos (Int.ofNat_lt.2 hlt), if_pos (Int.natCast_nonneg _), risesB_at cmpS okS l i hlt, show rdOf ByteArray.empty l (i : Int) = l[i] by simp [rdOf, hlt], wrap_nextB i _ hlt hl]
  by_cases ho : l[i].size ≤ 127
  ·
   have ho2 : okS l[i] = true := by unfold okS; simp [ho]
   rw [if_neg (by omega), ho2, Bool.true_and]
   by_cases h0 : i = 0
   ·
    subst h0
    rw [if_neg (by omega), if_pos rfl, Bool.true_and]
    exact IH
   ·
    rw [if_pos (by omega), wrap_prev i (by omega) (by omega), if_pos (Int.natCast_nonneg _), if_pos (by omega), if_neg h0, show rdOf ByteArray.empty l ((i - 1 : Nat) : Int) = l[i - 1] by simp [rdOf, show i - 1 < l.length by omega]]
    by_cases hc : 0 ≤ cmpS l[i - 1] l[i]
    ·
     rw [if_neg (fun h => (cmpS_lt _ _).1 h hc), decide_eq_true hc]
     rfl
    ·
     rw [if_pos ((cmpS_lt _ _).2 hc), decide_eq_false hc, Bool.not_false, Bool.true_and]
     exact IH
  ·
   have ho2 : okS l[i] = false := by unfold okS; simp [ho]
   rw [if_pos (by omega), ho2, Bool.false_and, Bool.false_and]
theorem numsFit_l (l : List Int) (hl : l.length ≤ 9223372036854775807) : ∀ (r i k : Nat), l.length - i = r → r < k → i ≤ l.length → berthref20_numsFit.l0 k l i = some (risesB cmpI okI (if i = 0 then none else l[i - 1]?) (l.drop i)) := by
 intro r
 induction r with
 | zero =>
  intro i k hr hk hi
  obtain ⟨k, rfl⟩ : ∃ m, k = m + 1 := ⟨k - 1, by omega⟩
  rw [numsFit_l0_succ, if_neg (by omega), risesB_end _ _ _ _ (by omega)]
 | succ r ih =>
  intro i k hr hk hi
  obtain ⟨k, rfl⟩ : ∃ m, k = m + 1 := ⟨k - 1, by omega⟩
  have hlt : i < l.length := by omega
  have IH := ih (i + 1) k (by omega) (by omega) (by omega)
  clear ih
  rw [numsFit_l0_succ, if_pos (Int.ofNat_lt.2 hlt), if_pos (Int.natCast_nonneg _), risesB_at cmpI okI l i hlt, show rd l (i : Int) = l[i] by simp [rd, hlt], wrap_nextB i _ hlt hl]
  by_cases ho1 : l[i] < -1000000000000000000
  ·
   have ho2 : okI l[i] = false := by unfold okI; rw [decide_eq_false_iff_not]; omega
   rw [if_pos ho1, ho2, Bool.false_and, Bool.false_and]
  ·
   by_cases ho3 : l[i] > 1000000000000000000
   ·
    have ho2 : okI l[i] = false := by unfold okI; rw [decide_eq_false_iff_not]; omega
    rw [if_neg ho1, if_pos ho3, ho2, Bool.false_and, Bool.false_and]
   ·
    have ho2 : okI l[i] = true := by unfold okI; rw [decide_eq_true_eq]; omega
    rw [if_neg ho1, if_neg ho3, ho2, Bool.true_and]
    by_cases h0 : i = 0
    ·
     subst h0
     rw [if_neg (by omega), if_pos rfl, Bool.true_and]
     exact IH
    ·
     rw [if_pos (by omega), wrap_prev i (by omega) (by omega), if_pos (Int.natCast_nonneg _), if_pos (by omega), if_neg h0, show rd l ((i - 1 : Nat) : Int) = l[i - 1] by simp [rd, show i - 1 < l.length by omega]]
     have hcl : 0 ≤ cmpI l[i - 1] l[i] ↔ l[i - 1] ≥ l[i] := by unfold cmpI; split <;> (try split) <;> omega
     by_cases hc : l[i - 1] ≥ l[i]
     ·
      rw [if_pos hc, decide_eq_true (hcl.2 hc)]
      rfl
     ·
      rw [if_neg hc, decide_eq_false (fun h => hc (hcl.1 h)), Bool.not_false, Bool.true_and]
      exact IH
theorem textsFit_any (w : World) (A : Option Addr) (c : Nat) (l : List ByteArray) (h : Kd.C Kd.string w A l.length l) (hc : l.length ≤ c) (hl : l.length ≤ 140737488351232) : Calls Try.prog 64 #[.slice A l.length c] w fun e w' => e = .returned (.bool (risesB cmpS okS none l)) ∧ Drawn0 w w' :=
  berthref20_textsFit.calls (l.length + 1) A c l _ w h hc (by have := textsFit_l l (by omega) l.length 0 (l.length + 1) (by omega) (by omega) (by omega); exact this)
theorem numsFit_any (w : World) (A : Option Addr) (c : Nat) (l : List Int) (h : Kd.C (Kd.int .i64) w A l.length l) (hc : l.length ≤ c) (hl : l.length ≤ 140737488351232) : Calls Try.prog 65 #[.slice A l.length c] w fun e w' => e = .returned (.bool (risesB cmpI okI none l)) ∧ Drawn0 w w' :=
  berthref20_numsFit.calls (l.length + 1) A c l _ w h hc (by have := numsFit_l l (by omega) l.length 0 (l.length + 1) (by omega) (by omega) (by omega); exact this)
theorem lessL_cmp {α : Type} (eq lt : α → α → Bool) (cmp : α → α → Int) (he : ∀ x y, eq x y = true ↔ cmp x y = 0) (hl : ∀ x y, lt x y = true ↔ cmp x y < 0) : ∀ a b : List α, lessL eq lt a b = !decide (0 ≤ cmpL cmp a b)
  | [], [] => by simp [lessL, cmpL]
  | [], _ :: _ => by simp [lessL, cmpL]
  | _ :: _, [] => by simp [lessL, cmpL]
  | x :: xs, y :: ys => by
    unfold lessL cmpL
    by_cases h : cmp x y = 0
    · rw [if_pos ((he x y).2 h), if_pos h, lessL_cmp eq lt cmp he hl xs ys]
    · rw [if_neg (fun hh => h ((he x y).1 hh)), if_neg h]
      by_cases h2 : cmp x y < 0
      · rw [(hl x y).2 h2, decide_eq_false (by omega)]
        rfl
      · rw [decide_eq_true (by omega)]
        cases h3 : lt x y
        · rfl
        · exact absurd ((hl x y).1 h3) h2
theorem lessS_cmp (a b : List ByteArray) : lessL eqS ltS a b = !decide (0 ≤ cmpL cmpS a b) := lessL_cmp _ _ _ (fun x y => by
 unfold eqS cmpS
 rw [beq_iff_eq]
 have ht := Go.Proofs.YtlocnfkkfpfpfaaX.bl_total x.toList y.toList
 constructor
 ·
  intro h
  rw [h]
  have : Op.bytesLess y.toList y.toList = false := by
   have h2 := Go.Proofs.YtlocnfkkfpfpfaaX.bl_total y.toList y.toList
   rw [beq_self_eq_true, Bool.or_true] at h2
   cases h3 : Op.bytesLess y.toList y.toList
   ·
    rfl
   ·
    rw [h3] at h2; cases h2
  simp [this]
 ·
  intro h
  by_cases h1 : Op.bytesLess x.toList y.toList = true
  ·
   rw [if_pos h1] at h; cases h
  ·
   by_cases h2 : Op.bytesLess y.toList x.toList = true
   ·
    rw [if_neg h1, if_pos h2] at h; cases h
   ·
    rw [eq_false_of_ne_true h1, eq_false_of_ne_true h2] at ht
    simpa using ht) (fun x y => by
 unfold ltS
 rw [cmpS_lt]
 omega) a b
theorem lessI_cmp (a b : List Int) : lessL eqI ltI a b = !decide (0 ≤ cmpL cmpI a b) := lessL_cmp _ _ _ (fun x y => by
    unfold eqI cmpI
    rw [beq_iff_eq]
    split <;> (try split) <;> omega) (fun x y => by
    unfold ltI cmpI
    rw [decide_eq_true_eq]
    split <;> (try split) <;> omega) a b
theorem lessS_any (w : World) (A B : Option Addr) (c d : Nat) (a b : List ByteArray) (ha : Kd.C Kd.string w A a.length a) (hc : a.length ≤ c) (hb : Kd.C Kd.string w B b.length b) (hd : b.length ≤ d) (hl : a.length ≤ 140737488351232) : Calls Try.prog 66 #[.slice A a.length c, .slice B b.length d] w fun e w' => e = .returned (.bool (!decide (0 ≤ cmpL cmpS a b))) ∧ Drawn0 w w' :=
  berthref20_LessTexts.calls (2 * a.length + 2) A c a B d b _ w ha hc hb hd (by
    have h := lessS_l a b (by omega) a.length 0 (2 * a.length + 2) (by omega) (by omega) (by omega) (by omega)
    rw [List.drop_zero, List.drop_zero, lessS_cmp] at h
    exact h)
theorem lessI_any (w : World) (A B : Option Addr) (c d : Nat) (a b : List Int) (ha : Kd.C (Kd.int .i64) w A a.length a) (hc : a.length ≤ c) (hb : Kd.C (Kd.int .i64) w B b.length b) (hd : b.length ≤ d) (hl : a.length ≤ 140737488351232) : Calls Try.prog 67 #[.slice A a.length c, .slice B b.length d] w fun e w' => e = .returned (.bool (!decide (0 ≤ cmpL cmpI a b))) ∧ Drawn0 w w' :=
  berthref20_LessNums.calls (2 * a.length + 2) A c a B d b _ w ha hc hb hd (by
    have h := lessI_l a b (by omega) a.length 0 (2 * a.length + 2) (by omega) (by omega) (by omega) (by omega)
    rw [List.drop_zero, List.drop_zero, lessI_cmp] at h
    exact h)
theorem operandFits_any (w : World) (n : Int) (b : Bool) : Calls Try.prog 68 #[.int .i64 n, .bool b] w fun e w' => e = .returned (.bool (opOK b n)) ∧ Drawn0 w w' :=
  berthref20_operandFits.calls n b _ w (by
    unfold berthref20_operandFits.f opOK
    cases b
    · rw [if_neg (by decide), if_neg (by decide)]
      rfl
    · rw [if_pos rfl, if_pos rfl]
      by_cases h : n ≥ 0
      · rw [if_pos h]
        congr 1
        rw [decide_eq_decide]
        omega
      · rw [if_neg h, decide_eq_false (by omega)])
set_option maxRecDepth 100000 in
theorem usesRef : ∀ n : _root_.Fin 36, berthref20_Uses.f 5 ((n.1 : Int) + 1) = some (usesV ((n.1 : Int) + 1)) := by decide
theorem uses_any (w : World) (op : Int) (h0 : 1 ≤ op) (h1 : op ≤ 36) : Calls Try.prog 40 #[.int .i64 op] w fun e w' => e = .returned (.tuple #[.bool (usesV op).1, .bool (usesV op).2.1, .bool (usesV op).2.2]) ∧ Drawn0 w w' :=
  berthref20_Uses.calls 5 op _ _ _ w (by
    have h := usesRef ⟨(op - 1).toNat, by omega⟩
    rw [show (((op - 1).toNat : Int) + 1) = op by omega] at h
    exact h)
end Go.Proofs.Ytlocnfkkfpfpfaa.D
