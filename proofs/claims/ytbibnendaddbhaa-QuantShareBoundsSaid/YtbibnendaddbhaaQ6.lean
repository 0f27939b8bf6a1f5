/- What bits.Div64, as printed, comes to: the quotient. No Go in sight. -/
import Derived.Test.YtbibnendaddbhaaQ5
namespace Go.Proofs.Ytbibnendaddbhaa.Q
open Go.RowKit Go.Proofs.YtbibnendaddbhaaW.PrintWords Go.Proofs.YtbibnendaddbhaaW.PrintLast Go.Proofs.YtbibnendaddbhaaW.PrintMore Go.Proofs.YtbibnendaddbhaaP Go.Proofs.Ytbibnendaddbhaa.All

theorem wpred {q : Nat} (h : 1 ≤ q) (h2 : q < 18446744073709551616) : IntKind.u64.wrap ((q : Int) - 1) = ((q - 1 : Nat) : Int) := by rw [wu]; omega

theorem ev_pair {α β : Type} {a b : α} {z : β} (h : a = b) : Ev (fun _ => some (a, z)) (b, z) := h ▸ Ev.now _
/-- What holds of one digit: 'y' in two halves, the part 'u' that stands ahead, the next half 'd'. -/
structure Dig (y1 y0 u d : Nat) : Prop where
  h1 : 2147483648 ≤ y1
  h2 : y1 < 4294967296
  h3 : y0 < 4294967296
  h4 : u < y1 * 4294967296 + y0
  h5 : d < 4294967296
def yy (y1 y0 : Nat) : Nat := y1 * 4294967296 + y0
def qq (y1 y0 u d : Nat) : Nat := (u * 4294967296 + d) / yy y1 y0
def rr (y1 y0 u d : Nat) : Nat := (u * 4294967296 + d) % yy y1 y0
section
variable {y1 y0 u d : Nat} (D : Dig y1 y0 u d)
include D
theorem Dig.pos : 0 < yy y1 y0 := by have := D.h1; unfold yy; omega
theorem Dig.qlt : qq y1 y0 u d < 4294967296 := by
  have := D.h4; have := D.h5
  unfold qq
  rw [Nat.div_lt_iff_lt_mul D.pos]
  unfold yy; omega
theorem Dig.rlt : rr y1 y0 u d < yy y1 y0 := Nat.mod_lt _ D.pos
theorem Dig.ylt : yy y1 y0 < 18446744073709551616 := by have := D.h2; have := D.h3; unfold yy; omega
theorem Dig.test {q r : Nat} (h : q * y1 + r = u) : (q * y0 ≤ 4294967296 * r + d ↔ q ≤ qq y1 y0 u d) := by
  unfold qq
  rw [Nat.le_div_iff_mul_le D.pos]
  unfold yy
  rw [Nat.mul_add, ← Nat.mul_assoc, ← h]
  omega
theorem Dig.first : qq y1 y0 u d ≤ u / y1 ∧ u / y1 ≤ 4294967297 ∧ u / y1 * y1 + u % y1 = u ∧ u % y1 < 4294967296 := by
  have a1 := D.h1; have a2 := D.h2; have a3 := D.h3; have a4 := D.h4; have a5 := D.h5
  have p : 0 < y1 := by omega
  refine ⟨?_, ?_, Nat.div_add_mod' u y1, Nat.lt_trans (Nat.mod_lt _ p) a2⟩
  · rw [Nat.le_div_iff_mul_le p]
    have := Nat.div_mul_le_self (u * 4294967296 + d) (yy y1 y0)
    change qq y1 y0 u d * yy y1 y0 ≤ _ at this
    generalize qq y1 y0 u d = q at *
    unfold yy at this
    rw [Nat.mul_add, ← Nat.mul_assoc] at this
    omega
  · have : u / y1 < 4294967298 := by rw [Nat.div_lt_iff_lt_mul p]; omega
    omega
theorem Dig.over {q r : Nat} (h : q * y1 + r = u) (hq : q ≤ 4294967296) (hr : 4294967296 ≤ r) : q ≤ qq y1 y0 u d := by
  rw [← D.test h]
  have := Nat.mul_le_mul hq (Nat.le_of_lt_succ (Nat.lt_of_lt_of_le D.h3 (Nat.le_refl _)) : y0 ≤ 4294967295)
  omega

/-- The first digit's corrections. -/
theorem div_l0 (s e : Int) {v : Int × Int} (J : Ev (fun k => bits_Div64.j2 k (yy y1 y0 : Nat) s y1 y0 u d e (qq y1 y0 u d : Nat)) v) :
    ∀ q r : Nat, q * y1 + r = u → r < 4294967296 → qq y1 y0 u d ≤ q → q ≤ 4294967297 → Ev (fun k => bits_Div64.l0 k (yy y1 y0 : Nat) s y1 y0 u d e q r) v := by
  have a1 := D.h1; have a2 := D.h2; have a3 := D.h3; have a5 := D.h5; have a6 := D.qlt
  intro q
  induction q with
  | zero =>
    intro r h hr hq _
    have e0 : qq y1 y0 u d = 0 := by omega
    rw [e0] at J
    refine Ev.step (fun k => bits_Div64.l0.eq_2 _ _ _ _ _ _ _ _ _ k) (ev_neg (by omega) ?_)
    refine Ev.step (fun k => bits_Div64.j1.eq_2 _ _ _ _ _ _ _ _ _ _ k) (ev_neg ?_ J)
    have w : IntKind.u64.wrap (((0 : Nat) : Int) * (y0 : Int)) = 0 := by rw [wu]; simp
    rw [w]
    have := wrap_u64_nonneg ((IntKind.u64.wrap (4294967296 * (r : Int))) + (d : Int))
    simp only [decide_eq_true_eq]
    omega
  | succ q ih =>
    intro r h hr hq hm
    by_cases t : qq y1 y0 u d < q + 1
    · have hd : q * y1 + (r + y1) = u := by rw [← h, Nat.add_mul]; omega
      have T : Ev (fun k => bits_Div64.j1 k (yy y1 y0 : Nat) s y1 y0 u d e ((q + 1 : Nat) : Int) r true) v := by
        refine Ev.step (fun k => bits_Div64.j1.eq_2 _ _ _ _ _ _ _ _ _ _ k) (ev_pos rfl ?_)
        have e1 : IntKind.u64.wrap ((r : Int) + (y1 : Int)) = ((r + y1 : Nat) : Int) := by rw [wu]; omega
        have e2 : IntKind.u64.wrap (((q + 1 : Nat) : Int) - 1) = ((q : Nat) : Int) := by rw [wpred (by omega) (by omega)]; rfl
        rw [e1, e2]
        by_cases o : 4294967296 ≤ r + y1
        · have : q = qq y1 y0 u d := Nat.le_antisymm (D.over hd (by omega) o) (by omega)
          rw [← this] at J
          exact ev_pos (by omega) J
        · exact ev_neg (by omega) (ih (r + y1) hd (by omega) (by omega) (by omega))
      refine Ev.step (fun k => bits_Div64.l0.eq_2 _ _ _ _ _ _ _ _ _ k) ?_
      by_cases b : 4294967296 ≤ q + 1
      · exact ev_pos (by omega) T
      · refine ev_neg (by omega) ?_
        have nt : ¬ ((q + 1) * y0 ≤ 4294967296 * r + d) := by rw [D.test h]; omega
        have m := Lib.half_mul_le (a := q + 1) (b := y0) (by omega) (by omega)
        have w1 : IntKind.u64.wrap (((q + 1 : Nat) : Int) * (y0 : Int)) = (((q + 1) * y0 : Nat) : Int) := by rw [← Int.natCast_mul, wun (by omega)]
        have w2 : IntKind.u64.wrap ((IntKind.u64.wrap (4294967296 * (r : Int))) + (d : Int)) = ((4294967296 * r + d : Nat) : Int) := by rw [wu, wu]; omega
        rw [w1, w2]
        have g : decide ((((q + 1) * y0 : Nat) : Int) > ((4294967296 * r + d : Nat) : Int)) = true := by rw [decide_eq_true_eq]; omega
        rw [g]
        exact T
    · have e0 : qq y1 y0 u d = q + 1 := by omega
      rw [e0] at J
      refine Ev.step (fun k => bits_Div64.l0.eq_2 _ _ _ _ _ _ _ _ _ k) (ev_neg (by omega) ?_)
      refine Ev.step (fun k => bits_Div64.j1.eq_2 _ _ _ _ _ _ _ _ _ _ k) (ev_neg ?_ J)
      have nt : ((q + 1) * y0 ≤ 4294967296 * r + d) := by rw [D.test h]; omega
      have m := Lib.half_mul_le (a := q + 1) (b := y0) (by omega) (by omega)
      have w1 : IntKind.u64.wrap (((q + 1 : Nat) : Int) * (y0 : Int)) = (((q + 1) * y0 : Nat) : Int) := by rw [← Int.natCast_mul, wun (by omega)]
      have w2 : IntKind.u64.wrap ((IntKind.u64.wrap (4294967296 * (r : Int))) + (d : Int)) = ((4294967296 * r + d : Nat) : Int) := by rw [wu, wu]; omega
      rw [w1, w2, decide_eq_true_eq]
      omega
/-- The second digit's. -/
theorem div_l1 {s p : Nat} (hp : p < 4294967296) : 
    ∀ q r : Nat, q * y1 + r = u → r < 4294967296 → qq y1 y0 u d ≤ q → q ≤ 4294967297 → ∃ z : Int, Ev (fun k => bits_Div64.l1 k (yy y1 y0 : Nat) (s : Nat) y1 y0 d p r u q) (((p * 4294967296 + qq y1 y0 u d : Nat) : Int), z) := by
  have a1 := D.h1; have a2 := D.h2; have a3 := D.h3; have a5 := D.h5; have a6 := D.qlt
  intro q
  have fin : ∀ n : Nat, n < 4294967296 → IntKind.u64.wrap ((IntKind.u64.wrap ((p : Int) * 4294967296)) + (n : Int)) = ((p * 4294967296 + n : Nat) : Int) := by
    intro n hn; rw [wu, wu]; omega
  induction q with
  | zero =>
    intro r h hr hq _
    have e0 : qq y1 y0 u d = 0 := by omega
    apply Exists.intro
    refine Ev.step (fun k => bits_Div64.l1.eq_2 _ _ _ _ _ _ _ _ _ k) (ev_neg (by omega) ?_)
    refine Ev.step (fun k => bits_Div64.j4.eq_2 _ _ _ _ _ _ _ _ _ _ k) (ev_neg ?_ (ev_pos (by omega) (ev_pair ?_)))
    · have w : IntKind.u64.wrap (((0 : Nat) : Int) * (y0 : Int)) = 0 := by rw [wu]; simp
      rw [w]
      have := wrap_u64_nonneg ((IntKind.u64.wrap (4294967296 * (r : Int))) + (d : Int))
      simp only [decide_eq_true_eq]
      omega
    · rw [fin 0 (by omega), e0]
  | succ q ih =>
    intro r h hr hq hm
    by_cases t : qq y1 y0 u d < q + 1
    · have hd : q * y1 + (r + y1) = u := by rw [← h, Nat.add_mul]; omega
      have T : ∃ z : Int, Ev (fun k => bits_Div64.j4 k (yy y1 y0 : Nat) (s : Nat) y1 y0 d p r u ((q + 1 : Nat) : Int) true) (((p * 4294967296 + qq y1 y0 u d : Nat) : Int), z) := by
        have e1 : IntKind.u64.wrap ((r : Int) + (y1 : Int)) = ((r + y1 : Nat) : Int) := by rw [wu]; omega
        have e2 : IntKind.u64.wrap (((q + 1 : Nat) : Int) - 1) = ((q : Nat) : Int) := by rw [wpred (by omega) (by omega)]; rfl
        by_cases o : 4294967296 ≤ r + y1
        · have : q = qq y1 y0 u d := Nat.le_antisymm (D.over hd (by omega) o) (by omega)
          apply Exists.intro
          refine Ev.step (fun k => bits_Div64.j4.eq_2 _ _ _ _ _ _ _ _ _ _ k) (ev_pos rfl ?_)
          rw [e1, e2]
          refine ev_pos (by omega) (ev_pos (by omega) (ev_pair ?_))
          rw [fin q (by omega), ← this]
        · obtain ⟨z, E⟩ := ih (r + y1) hd (by omega) (by omega) (by omega)
          refine ⟨z, Ev.step (fun k => bits_Div64.j4.eq_2 _ _ _ _ _ _ _ _ _ _ k) (ev_pos rfl ?_)⟩
          rw [e1, e2]
          exact ev_neg (by omega) E
      obtain ⟨z, T⟩ := T
      refine ⟨z, Ev.step (fun k => bits_Div64.l1.eq_2 _ _ _ _ _ _ _ _ _ k) ?_⟩
      by_cases b : 4294967296 ≤ q + 1
      · exact ev_pos (by omega) T
      · refine ev_neg (by omega) ?_
        have nt : ¬ ((q + 1) * y0 ≤ 4294967296 * r + d) := by rw [D.test h]; omega
        have m := Lib.half_mul_le (a := q + 1) (b := y0) (by omega) (by omega)
        have w1 : IntKind.u64.wrap (((q + 1 : Nat) : Int) * (y0 : Int)) = (((q + 1) * y0 : Nat) : Int) := by rw [← Int.natCast_mul, wun (by omega)]
        have w2 : IntKind.u64.wrap ((IntKind.u64.wrap (4294967296 * (r : Int))) + (d : Int)) = ((4294967296 * r + d : Nat) : Int) := by rw [wu, wu]; omega
        rw [w1, w2]
        have g : decide ((((q + 1) * y0 : Nat) : Int) > ((4294967296 * r + d : Nat) : Int)) = true := by rw [decide_eq_true_eq]; omega
        rw [g]
        exact T
    · have e0 : qq y1 y0 u d = q + 1 := by omega
      apply Exists.intro
      refine Ev.step (fun k => bits_Div64.l1.eq_2 _ _ _ _ _ _ _ _ _ k) (ev_neg (by omega) ?_)
      refine Ev.step (fun k => bits_Div64.j4.eq_2 _ _ _ _ _ _ _ _ _ _ k) (ev_neg ?_ (ev_pos (by omega) (ev_pair ?_)))
      · have nt : ((q + 1) * y0 ≤ 4294967296 * r + d) := by rw [D.test h]; omega
        have m := Lib.half_mul_le (a := q + 1) (b := y0) (by omega) (by omega)
        have w1 : IntKind.u64.wrap (((q + 1 : Nat) : Int) * (y0 : Int)) = (((q + 1) * y0 : Nat) : Int) := by rw [← Int.natCast_mul, wun (by omega)]
        have w2 : IntKind.u64.wrap ((IntKind.u64.wrap (4294967296 * (r : Int))) + (d : Int)) = ((4294967296 * r + d : Nat) : Int) := by rw [wu, wu]; omega
        rw [w1, w2, decide_eq_true_eq]
        omega
      · rw [fin (q + 1) (by omega), e0]
end
end Go.Proofs.Ytbibnendaddbhaa.Q
