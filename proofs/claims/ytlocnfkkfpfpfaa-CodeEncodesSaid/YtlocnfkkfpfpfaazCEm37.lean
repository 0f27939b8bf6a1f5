/- Where bytes hold no program, the fault has one of the seven numbers, and a place within the bytes. -/
import Derived.Test.YtlocnfkkfpfpfaazCEm18
namespace Go.Proofs.Ytlocnfkkfpfpfaa.D
open Go.RowKit Go.Proofs.YtlocnfkkfpfpfaaW.PrintWords Go.Proofs.YtlocnfkkfpfpfaaW.PrintLast Go.Proofs.YtlocnfkkfpfpfaaW.PrintMore Go.Proofs.Ytlocnfkkfpfpfaa.Six
set_option linter.unusedSimpArgs false
set_option linter.unusedVariables false
def Res {α : Type} (n : Int) (p : Int) (r : Except (Int × Int) (α × Int)) : Prop := (∀ k q, r = .error (k, q) → 200 ≤ k ∧ k ≤ 206 ∧ 0 ≤ q ∧ q ≤ n) ∧ (∀ x q, r = .ok (x, q) → p ≤ q ∧ q ≤ n)
theorem Res.err {α : Type} {n p k q : Int} (h : 200 ≤ k ∧ k ≤ 206 ∧ 0 ≤ q ∧ q ≤ n) : Res (α := α) n p (.error (k, q)) :=
  ⟨fun k2 q2 h2 => by simp only [Except.error.injEq, Prod.mk.injEq] at h2; obtain ⟨rfl, rfl⟩ := h2; exact h, fun x q h => by cases h⟩
theorem Res.ok {α : Type} {n p q : Int} {x : α} (h : p ≤ q ∧ q ≤ n) : Res n p (.ok (x, q)) :=
  ⟨(fun k2 q2 h2 => by cases h2), fun y q2 h2 => by simp only [Except.ok.injEq, Prod.mk.injEq] at h2; obtain ⟨rfl, rfl⟩ := h2; exact h⟩
theorem Res.lower {α : Type} {n p p2 : Int} {r : Except (Int × Int) (α × Int)} (h : Res n p r) (hp : p2 ≤ p) : Res n p2 r := ⟨h.1, fun x q hx => by have := h.2 x q hx; omega⟩
def Tame {α : Type} (n : Int) (f : Int → Except (Int × Int) (α × Int)) : Prop := ∀ p, 0 ≤ p → p ≤ n → Res n p (f p)
theorem Tame.bind {α β : Type} {n : Int} {f : Int → Except (Int × Int) (α × Int)} {g : α → Int → Except (Int × Int) (β × Int)} (hf : Tame n f) (hg : ∀ x, Tame n (g x)) {F : Int → Except (Int × Int) (β × Int)} (hE : ∀ p e, f p = .error e → F p = .error e) (hO : ∀ p x q, f p = .ok (x, q) → F p = g x q) : Tame n F := by
  intro p h0 h1
  have h := hf p h0 h1
  cases hp : f p with
  | error e =>
    obtain ⟨k, q⟩ := e
    rw [hE p _ hp]
    exact Res.err (h.1 k q hp)
  | ok xq =>
    obtain ⟨x, q⟩ := xq
    have := h.2 x q hp
    rw [hO p _ _ hp]
    exact (hg x q (by omega) (by omega)).lower this.1
end Go.Proofs.Ytlocnfkkfpfpfaa.D
