/- The reference's tests, plain: they are the code's. -/
import Derived.Test.YtlocnfkkfpfpfaazCDm23
import Derived.Test.YtlocnfkkfpfpfaazCDm36
import Derived.Test.YtlocnfkkfpfpfaazCDm37
namespace Go.Proofs.Ytlocnfkkfpfpfaa.D
open Go.RowKit Go.Proofs.YtlocnfkkfpfpfaaW.PrintWords Go.Proofs.YtlocnfkkfpfpfaaW.PrintLast Go.Proofs.YtlocnfkkfpfpfaaW.PrintMore Go.Proofs.Ytlocnfkkfpfpfaa.Six
set_option linter.unusedSimpArgs false
set_option linter.unusedVariables false
theorem cmpS_lt (a b : ByteArray) : (Op.bytesLess a.toList b.toList = true) ↔ ¬ 0 ≤ cmpS a b := by
 unfold cmpS
 split
 ·
  next h => simp [h]
 ·
  next h => split <;> simp [h]
theorem lessL_cmp {α : Type} (eq lt : α → α → Bool) (cmp : α → α → Int) (he : ∀ x y, eq x y = true ↔ cmp x y = 0) (hl : ∀ x y, lt x y = true ↔ cmp x y < 0) : ∀ a b : List α, lessL eq lt a b = !decide (0 ≤ cmpL cmp a b)
  | [], [] => by simp [lessL, cmpL]
  | [], _ :: _ => by simp [lessL, cmpL]
  | _ :: _, [] => by simp [lessL, cmpL]
  | x :: xs, y :: ys => by
    unfold lessL cmpL
    by_cases h : cmp x y = 0
    · rw [if_pos ((he x y).2 h), if_pos h, lessL_cmp eq lt cmp he hl xs ys]
    · rw [if_neg (fun hh => h ((he x y).1 hh)), if_neg h]
      by_cases h2 : cmp x y < 0
      · rw [(hl x y).2 h2, decide_eq_false (by omega)]
        rfl
      · rw [decide_eq_true (by omega)]
        cases h3 : lt x y
        · rfl
        · exact absurd ((hl x y).1 h3) h2
theorem lessS_cmp (a b : List ByteArray) : lessL eqS ltS a b = !decide (0 ≤ cmpL cmpS a b) := lessL_cmp _ _ _ (fun x y => by
 unfold eqS cmpS
 rw [beq_iff_eq]
 have ht := Go.Proofs.YtlocnfkkfpfpfaaX.bl_total x.toList y.toList
 constructor
 ·
  intro h
  rw [h]
  have : Op.bytesLess y.toList y.toList = false := by
   have h2 := Go.Proofs.YtlocnfkkfpfpfaaX.bl_total y.toList y.toList
   rw [beq_self_eq_true, Bool.or_true] at h2
   cases h3 : Op.bytesLess y.toList y.toList
   ·
    rfl
   ·
    rw [h3] at h2; cases h2
  simp [this]
 ·
  intro h
  by_cases h1 : Op.bytesLess x.toList y.toList = true
  ·
   rw [if_pos h1] at h; cases h
  ·
   by_cases h2 : Op.bytesLess y.toList x.toList = true
   ·
    rw [if_neg h1, if_pos h2] at h; cases h
   ·
    rw [eq_false_of_ne_true h1, eq_false_of_ne_true h2] at ht
    simpa using ht) (fun x y => by
 unfold ltS
 rw [cmpS_lt]
 omega) a b
theorem lessI_cmp (a b : List Int) : lessL eqI ltI a b = !decide (0 ≤ cmpL cmpI a b) := lessL_cmp _ _ _ (fun x y => by
    unfold eqI cmpI
    rw [beq_iff_eq]
    split <;> (try split) <;> omega) (fun x y => by
    unfold ltI cmpI
    rw [decide_eq_true_eq]
    split <;> (try split) <;> omega) a b
theorem lessS_any (w : World) (A B : Option Addr) (c d : Nat) (a b : List ByteArray) (ha : Kd.C Kd.string w A a.length a) (hc : a.length ≤ c) (hb : Kd.C Kd.string w B b.length b) (hd : b.length ≤ d) (hl : a.length ≤ 9223372036854775807) : Calls Try.prog 66 #[.slice A a.length c, .slice B b.length d] w fun e w' => e = .returned (.bool (!decide (0 ≤ cmpL cmpS a b))) ∧ Drawn0 w w' :=
  berthref20_LessTexts.calls (2 * a.length + 2) A c a B d b _ w ha hc hb hd (by
    have h := lessS_l a b (by omega) a.length 0 (2 * a.length + 2) (by omega) (by omega) (by omega) (by omega)
    rw [List.drop_zero, List.drop_zero, lessS_cmp] at h
    exact h)
theorem lessI_any (w : World) (A B : Option Addr) (c d : Nat) (a b : List Int) (ha : Kd.C (Kd.int .i64) w A a.length a) (hc : a.length ≤ c) (hb : Kd.C (Kd.int .i64) w B b.length b) (hd : b.length ≤ d) (hl : a.length ≤ 9223372036854775807) : Calls Try.prog 67 #[.slice A a.length c, .slice B b.length d] w fun e w' => e = .returned (.bool (!decide (0 ≤ cmpL cmpI a b))) ∧ Drawn0 w w' :=
  berthref20_LessNums.calls (2 * a.length + 2) A c a B d b _ w ha hc hb hd (by
    have h := lessI_l a b (by omega) a.length 0 (2 * a.length + 2) (by omega) (by omega) (by omega) (by omega)
    rw [List.drop_zero, List.drop_zero, lessI_cmp] at h
    exact h)
set_option maxRecDepth 100000 in
theorem usesRef : ∀ n : _root_.Fin 36, berthref20_Uses.f 5 ((n.1 : Int) + 1) = some (usesV ((n.1 : Int) + 1)) := by decide
theorem uses_any (w : World) (op : Int) (h0 : 1 ≤ op) (h1 : op ≤ 36) : Calls Try.prog 40 #[.int .i64 op] w fun e w' => e = .returned (.tuple #[.bool (usesV op).1, .bool (usesV op).2.1, .bool (usesV op).2.2]) ∧ Drawn0 w w' :=
  berthref20_Uses.calls 5 op _ _ _ w (by
    have h := usesRef ⟨(op - 1).toNat, by omega⟩
    rw [show (((op - 1).toNat : Int) + 1) = op by omega] at h
    exact h)
end Go.Proofs.Ytlocnfkkfpfpfaa.D
