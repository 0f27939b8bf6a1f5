/- Words for plain statements over the printed functions: rounds that suffice ('Ev'), sums that do not wrap, bytes of strings. No Go and no program in sight. -/
import Derived.Test.YtbibnendaddbhaaWWords
import Derived.Test.YtbibnendaddbhaaWLast
import Derived.Test.YtbibnendaddbhaaWMore
import Derived.Sort.Walk0
namespace Go.Proofs.YtbibnendaddbhaaP
open Go.RowKit Go.Proofs.YtbibnendaddbhaaW.PrintWords Go.Proofs.YtbibnendaddbhaaW.PrintLast Go.Proofs.YtbibnendaddbhaaW.PrintMore

theorem ev_pos {α : Type} {c : Prop} [Decidable c] {a b : Nat → Option α} {r : α} (h : c) (e : Ev a r) : Ev (fun k => if c then a k else b k) r := Ev.congr (fun _ => if_pos h) e
theorem ev_neg {α : Type} {c : Prop} [Decidable c] {a b : Nat → Option α} {r : α} (h : ¬ c) (e : Ev b r) : Ev (fun k => if c then a k else b k) r := Ev.congr (fun _ => if_neg h) e
theorem ev_some {α : Type} (r : α) : Ev (fun _ => some r) r := Ev.now r
theorem ev_some' {α : Type} {r s : α} (h : s = r) : Ev (fun _ => some s) r := h ▸ Ev.now s
theorem ev_fix {α : Type} {o : Option α} {r : α} (h : o = some r) : Ev (fun _ => o) r := ⟨0, fun _ _ => h⟩
theorem ev_uniq {α : Type} {g : Nat → Option α} {r s : α} (h : Ev g r) (k : Ev g s) : r = s := by
  obtain ⟨K, hK⟩ := h
  obtain ⟨L, hL⟩ := k
  have h1 := hK (max K L) (Nat.le_max_left _ _)
  have h2 := hL (max K L) (Nat.le_max_right _ _)
  exact Option.some.inj (h1.symm.trans h2)
theorem w64 {n : Int} (h1 : -9223372036854775808 ≤ n) (h2 : n ≤ 9223372036854775807) : wrap64 n = n := by unfold wrap64; omega
theorem w64_succ {n : Nat} (h : n < 4611686018427387904) : wrap64 ((n : Int) + 1) = ((n + 1 : Nat) : Int) := by unfold wrap64; omega
theorem w64_pred {n : Nat} (h0 : 0 < n) (h : n < 4611686018427387904) : wrap64 ((n : Int) - 1) = ((n - 1 : Nat) : Int) := by unfold wrap64; omega
theorem u64w {n : Int} (h1 : 0 ≤ n) (h2 : n ≤ 18446744073709551615) : IntKind.u64.wrap n = n := by
  simp [IntKind.wrap, IntKind.signed, IntKind.bits]; omega

/-! ### strings by their bytes -/
theorem toList_eq (a : ByteArray) : a.toList = a.data.toList := Lib.toList_data a
theorem toList_inj {a b : ByteArray} : a.toList = b.toList ↔ a = b := by
  constructor
  · intro h
    rw [toList_eq, toList_eq] at h
    cases a; cases b
    simp at h
    subst h; rfl
  · rintro rfl; rfl
theorem toList_length (a : ByteArray) : a.toList.length = a.size := by rw [toList_eq]; rfl
/-- 'a < b', by bytes. -/
def blt (a b : ByteArray) : Bool := Op.bytesLess a.toList b.toList
theorem blt_iff {a b : ByteArray} : blt a b = true ↔ a.toList < b.toList := by
  unfold blt; rw [Proofs.bytesLess_eq]; simp
theorem blt_irrefl (a : ByteArray) : blt a a = false := by
  cases h : blt a a
  · rfl
  · exact absurd (blt_iff.1 h) (List.lt_irrefl _)
theorem blt_trans {a b c : ByteArray} (h : blt a b = true) (k : blt b c = true) : blt a c = true := blt_iff.2 (List.lt_trans (blt_iff.1 h) (blt_iff.1 k))
theorem blt_asymm {a b : ByteArray} (h : blt a b = true) : blt b a = false := by
  cases k : blt b a
  · rfl
  · have := blt_trans h k; rw [blt_irrefl] at this; exact absurd this (by simp)
theorem blt_total {a b : ByteArray} (h : blt a b = false) (k : blt b a = false) : a = b := by
  have h1 : ¬ a.toList < b.toList := fun h' => by rw [blt_iff.2 h'] at h; exact absurd h (by simp)
  have h2 : ¬ b.toList < a.toList := fun h' => by rw [blt_iff.2 h'] at k; exact absurd k (by simp)
  exact toList_inj.1 (List.le_antisymm (List.not_lt.1 h2) (List.not_lt.1 h1))
theorem blt_ne {a b : ByteArray} (h : blt a b = true) : a ≠ b := fun e => by subst e; rw [blt_irrefl] at h; exact absurd h (by simp)
theorem blt_nil {a : ByteArray} (h : 0 < a.size) : blt ⟨#[]⟩ a = true := by
  unfold blt
  have : a.toList ≠ [] := fun e => by have := toList_length a; rw [e] at this; simp at this; omega
  cases e : a.toList with
  | nil => exact absurd e this
  | cons x y => rw [toList_eq]; simp [Op.bytesLess]
theorem nil_toList {a : ByteArray} : a.toList = [] ↔ a = ⟨#[]⟩ := by
  rw [← toList_inj, toList_eq ⟨#[]⟩]
end Go.Proofs.YtbibnendaddbhaaP
