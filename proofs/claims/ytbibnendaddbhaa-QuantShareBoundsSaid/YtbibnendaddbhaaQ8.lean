/- What Share comes to, the library's and the written one: the same plain number, or the same complaint. No Go in sight. -/
import Derived.Test.YtbibnendaddbhaaQ7
import Derived.Test.YtbibnendaddbhaaAllx6
namespace Go.Proofs.Ytbibnendaddbhaa.Q
open Go.RowKit Go.Proofs.YtbibnendaddbhaaW.PrintWords Go.Proofs.YtbibnendaddbhaaW.PrintLast Go.Proofs.YtbibnendaddbhaaW.PrintMore Go.Proofs.YtbibnendaddbhaaP Go.Proofs.Ytbibnendaddbhaa.All

/-- The share of numbers that are none below zero (the whole: at least one). -/
def shareN (p w s : Nat) : Int × Int := if 9223372036854775807 < p * s / w then (0, 28) else (((p * s / w : Nat) : Int), 0)
theorem share_j0 {p w s : Nat} (hp : p ≤ 9223372036854775807) (hs : s ≤ 9223372036854775807) (hw : w ≤ 9223372036854775807) (h1 : 1 ≤ w) :
    Ev (fun k => quant_Share.j0 k (p : Int) (w : Int) (s : Int) false) (shareN p w s) := by
  refine Ev.step (fun k => quant_Share.j0.eq_2 _ _ _ _ k) (ev_neg (by simp) ?_)
  rw [wun (n := p) (by omega), wun (n := s) (by omega), wun (n := w) (by omega)]
  refine Ev.bind (ev_fix (mul64_eq (by omega) (by omega))) ?_
  have hd := Nat.div_add_mod' (p * s) 18446744073709551616
  have hl : p * s % 18446744073709551616 < 18446744073709551616 := Nat.mod_lt _ (by decide)
  generalize p * s % 18446744073709551616 = l at *
  generalize p * s / 18446744073709551616 = h at *
  unfold shareN
  rw [← hd]
  by_cases c : w ≤ h
  · have : w * 18446744073709551616 ≤ h * 18446744073709551616 + l := by omega
    have : 18446744073709551616 ≤ (h * 18446744073709551616 + l) / w := by rw [Nat.le_div_iff_mul_le (by omega), Nat.mul_comm]; exact this
    rw [if_pos (by omega)]
    exact ev_pos (by show (h : Int) ≥ (w : Int); omega) (ev_some _)
  · refine ev_neg (by show ¬ (h : Int) ≥ (w : Int); omega) ?_
    obtain ⟨z, E⟩ := div64_eq (h := h) (l := l) (y := w) (by omega) (by omega) hl
    refine Ev.bind E ?_
    generalize (h * 18446744073709551616 + l) / w = q at *
    by_cases g : 9223372036854775807 < q
    · rw [if_pos g]; exact ev_pos (by show (q : Int) > 9223372036854775807; omega) (ev_some _)
    · rw [if_neg g]
      refine ev_neg (by show ¬ (q : Int) > 9223372036854775807; omega) (ev_some' ?_)
      show (wrap64 (q : Int), _) = _
      rw [w64 (by omega) (by omega)]
/-- The share of any numbers. -/
def shareV (p w s : Int) : Int × Int := if p < 0 ∨ s < 0 ∨ w < 1 then (0, 26) else shareN p.toNat w.toNat s.toNat
section
variable {p w s : Int} (hp : p ≤ 9223372036854775807) (hs : s ≤ 9223372036854775807) (hw : w ≤ 9223372036854775807)
include hp hs hw
theorem share_ev : Ev (fun k => quant_Share.f k p w s) (shareV p w s) := by
  unfold quant_Share.f shareV
  have T : Ev (fun k => quant_Share.j0 k p w s true) (0, 26) := Ev.step (fun k => quant_Share.j0.eq_2 _ _ _ _ k) (ev_pos rfl (ev_some _))
  by_cases h1 : p < 0
  · rw [if_pos (Or.inl h1)]; exact ev_pos h1 T
  · refine ev_neg h1 ?_
    by_cases h2 : s < 0
    · rw [if_pos (Or.inr (Or.inl h2))]; exact ev_pos h2 T
    · refine ev_neg h2 ?_
      by_cases h3 : w < 1
      · rw [if_pos (Or.inr (Or.inr h3)), decide_eq_true h3]; exact T
      · rw [if_neg (by omega), decide_eq_false h3]
        have e := share_j0 (p := p.toNat) (w := w.toNat) (s := s.toNat) (by omega) (by omega) (by omega) (by omega)
        rw [show ((p.toNat : Nat) : Int) = p by omega, show ((w.toNat : Nat) : Int) = w by omega, show ((s.toNat : Nat) : Int) = s by omega] at e
        exact e
end

/-! ### the written one -/
theorem i64_and1 (n : Int) : Go.bits .and .i64 n 1 = n % 2 := by
  have h1 : (BitVec.ofInt 64 1).toNat = 2 ^ 1 - 1 := by decide
  have key : (BitVec.ofInt 64 n &&& BitVec.ofInt 64 1).toNat = (n % ((2 ^ 64 : Nat) : Int)).toNat % 2 ^ 1 := by
    rw [BitVec.toNat_and, BitVec.toNat_ofInt, h1, Nat.and_two_pow_sub_one_eq_mod]
  show IntKind.i64.wrap ((BitVec.ofInt 64 n &&& BitVec.ofInt 64 1).toNat : Nat) = n % 2
  rw [key, IntKind.wrap_i64]
  omega
theorem shrI {y s : Nat} (hs : s ≤ 64) : shr .i64 (y : Int) (s : Int) = ((y / 2 ^ s : Nat) : Int) := by
  unfold shr
  rw [show min (s : Int).toNat IntKind.i64.bits = s from Nat.min_eq_left hs]
  have : ((2 : Int) ^ s) = ((2 ^ s : Nat) : Int) := by simp
  rw [this, ← Int.natCast_ediv]
theorem le_t {X W R t r : Nat} (h : X * W + R = t * r) (hr : r < W) : X ≤ t := by
  have h1 : t * r ≤ t * W := Nat.mul_le_mul (Nat.le_refl _) (Nat.le_of_lt hr)
  exact Nat.le_of_mul_le_mul_right (by omega : X * W ≤ t * W) (by omega)
section
variable {S q r W : Nat} (hS : S ≤ 9223372036854775807) (hr : r < W) (hW : W ≤ 9223372036854775807) (hq : q * S ≤ 9223372036854775807)
include hS hr hW hq
/-- The loop over the bits. -/
theorem ref_l0 : ∀ (n X R : Nat), n ≤ 63 → X * W + R = S / 2 ^ n * r → R < W →
    Ev (fun k => berthref02_Share.l0 k (S : Int) (q : Int) (r : Int) (X : Int) (R : Int) (W : Int) ((n : Int) - 1)) (if 9223372036854775807 < q * S + S * r / W then ((0 : Int), (28 : Int)) else (((q * S + S * r / W : Nat) : Int), (0 : Int))) := by
  intro n
  induction n with
  | zero =>
    intro X R _ hX hR
    rw [show S / 2 ^ 0 = S by omega] at hX
    have hx := le_t hX hr
    have hv : S * r / W = X := by
      rw [← hX, Nat.mul_comm X W, Nat.mul_add_div (by omega), Nat.div_eq_of_lt hR]; omega
    rw [hv]
    refine Ev.step (fun k => berthref02_Share.l0.eq_2 _ _ _ _ _ _ _ k) (ev_neg (by omega) ?_)
    rw [← Int.natCast_mul, w64 (n := ((q * S : Nat) : Int)) (by omega) (by omega), w64 (n := 9223372036854775807 - ((q * S : Nat) : Int)) (by omega) (by omega)]
    by_cases g : 9223372036854775807 < q * S + X
    · rw [if_pos g]; exact ev_pos (by omega) (ev_some _)
    · rw [if_neg g]
      refine ev_neg (by omega) (ev_some' ?_)
      rw [w64 (by omega) (by omega)]
      congr 1
  | succ n ih =>
    intro X R hn hX hR
    have ht : S / 2 ^ (n + 1) = S / 2 ^ n / 2 := by rw [Nat.pow_succ, Nat.div_div_eq_div_mul]
    have htS : S / 2 ^ n ≤ S := Nat.div_le_self _ _
    rw [ht] at hX
    have hx := le_t hX hr
    -- doubled
    have D : ∃ X1 R1 : Nat, X1 * W + R1 = 2 * (S / 2 ^ n / 2) * r ∧ R1 < W ∧ X1 ≤ 2 * (S / 2 ^ n / 2) ∧
        ∀ v, Ev (fun k => berthref02_Share.j3 k (S : Int) (q : Int) (r : Int) (X1 : Int) (R1 : Int) (W : Int) (n : Int)) v → Ev (fun k => berthref02_Share.l0 k (S : Int) (q : Int) (r : Int) (X : Int) (R : Int) (W : Int) (((n + 1 : Nat) : Int) - 1)) v := by
      have e1 : IntKind.u64.wrap (2 * (R : Int)) = ((2 * R : Nat) : Int) := by rw [wu]; omega
      have e3 : wrap64 (2 * (X : Int)) = ((2 * X : Nat) : Int) := by rw [w64 (by omega) (by omega)]; omega
      have m2 : 2 * (S / 2 ^ n / 2) * r = 2 * (S / 2 ^ n / 2 * r) := Nat.mul_assoc _ _ _
      have m1 : 2 * X * W = 2 * (X * W) := Nat.mul_assoc _ _ _
      have e5 : (((n + 1 : Nat) : Int) - 1) = (n : Int) := by omega
      rw [e5]
      by_cases g : W ≤ 2 * R
      · have hX1 : (2 * X + 1) * W + (2 * R - W) = 2 * (S / 2 ^ n / 2) * r := by rw [m2, ← hX, Nat.add_mul, m1]; omega
        have hx1 := le_t hX1 hr
        refine ⟨2 * X + 1, 2 * R - W, hX1, by omega, hx1, fun v E => ?_⟩
        refine Ev.step (fun k => berthref02_Share.l0.eq_2 _ _ _ _ _ _ _ k) (ev_pos (by omega) ?_)
        rw [e1, e3]
        refine ev_pos (by omega) ?_
        have e4 : IntKind.u64.wrap (((2 * R : Nat) : Int) - (W : Int)) = ((2 * R - W : Nat) : Int) := by rw [wu]; omega
        have e6 : wrap64 (((2 * X : Nat) : Int) + 1) = ((2 * X + 1 : Nat) : Int) := by rw [w64 (by omega) (by omega)]; omega
        rw [e4, e6]
        exact E
      · have hX1 : (2 * X) * W + (2 * R) = 2 * (S / 2 ^ n / 2) * r := by rw [m2, ← hX, m1]; omega
        have hx1 := le_t hX1 hr
        refine ⟨2 * X, 2 * R, hX1, by omega, hx1, fun v E => ?_⟩
        refine Ev.step (fun k => berthref02_Share.l0.eq_2 _ _ _ _ _ _ _ k) (ev_pos (by omega) ?_)
        rw [e1, e3]
        exact ev_neg (by omega) E
    obtain ⟨X1, R1, hX1, hR1, hx1, K⟩ := D
    refine K _ (Ev.step (fun k => berthref02_Share.j3.eq_2 _ _ _ _ _ _ _ k) (ev_pos (by omega) ?_))
    rw [shrI (by omega), i64_and1]
    have e7 : wrap64 ((n : Int) - 1) = (n : Int) - 1 := w64 (by omega) (by omega)
    rw [e7]
    generalize hT : S / 2 ^ n = T at *
    by_cases b : T % 2 = 1
    · have eT : T = 2 * (T / 2) + 1 := by omega
      have m3 : T * r = 2 * (T / 2) * r + r := by
        have := Nat.add_mul (2 * (T / 2)) 1 r
        rw [← eT, Nat.one_mul] at this; exact this
      refine ev_pos (by omega) ?_
      have e8 : IntKind.u64.wrap ((R1 : Int) + (r : Int)) = ((R1 + r : Nat) : Int) := by rw [wu]; omega
      rw [e8]
      by_cases g : W ≤ R1 + r
      · have e9 : IntKind.u64.wrap (((R1 + r : Nat) : Int) - (W : Int)) = ((R1 + r - W : Nat) : Int) := by rw [wu]; omega
        have e10 : wrap64 ((X1 : Int) + 1) = ((X1 + 1 : Nat) : Int) := by rw [w64 (by omega) (by omega)]; omega
        rw [e9, e10]
        exact ev_pos (by omega) (ih (X1 + 1) (R1 + r - W) (by omega) (by rw [m3, ← hX1, Nat.add_mul]; omega) (by omega))
      · exact ev_neg (by omega) (ih X1 (R1 + r) (by omega) (by rw [m3, ← hX1]; omega) (by omega))
    · have eT : T = 2 * (T / 2) := by omega
      refine ev_neg (by omega) (ih X1 R1 (by omega) ?_ hR1)
      rw [hX1, ← eT]
end
theorem ref_j0 {p w s : Nat} (hp : p ≤ 9223372036854775807) (hs : s ≤ 9223372036854775807) (hw : w ≤ 9223372036854775807) (h1 : 1 ≤ w) :
    Ev (fun k => berthref02_Share.j0 k (p : Int) (w : Int) (s : Int) false) (shareN p w s) := by
  have hd := Nat.div_add_mod' p w
  have hm : p % w < w := Nat.mod_lt _ (by omega)
  have hq : p / w ≤ p := Nat.div_le_self _ _
  have tot : p * s / w = p / w * s + s * (p % w) / w := by
    have : p * s = s * (p % w) + (p / w * s) * w := by
      have := Nat.add_mul (p / w * w) (p % w) s
      rw [hd] at this
      rw [this, Nat.mul_comm (p % w) s, Nat.mul_right_comm]
      omega
    rw [this, Nat.add_mul_div_right _ _ (by omega)]
    omega
  unfold shareN
  rw [tot]
  refine Ev.step (fun k => berthref02_Share.j0.eq_2 _ _ _ _ k) (ev_neg (by simp) (ev_neg (by omega) ?_))
  have t1 : Int.tdiv (p : Int) (w : Int) = ((p / w : Nat) : Int) := tdivN p w
  have t2 : Int.tmod (p : Int) (w : Int) = ((p % w : Nat) : Int) := (Int.ofNat_tmod p w).symm
  rw [t1, t2]
  generalize p / w = q at *
  generalize p % w = r at *
  rw [w64 (n := (q : Int)) (by omega) (by omega), wun (n := r) (by omega)]
  have F : q * s ≤ 9223372036854775807 → Ev (fun k => berthref02_Share.j1 k (w : Int) (s : Int) (q : Int) (r : Int) false) (if 9223372036854775807 < q * s + s * r / w then ((0 : Int), (28 : Int)) else (((q * s + s * r / w : Nat) : Int), (0 : Int))) := by
    intro hqs
    refine Ev.step (fun k => berthref02_Share.j1.eq_2 _ _ _ _ _ k) (ev_neg (by simp) ?_)
    rw [wun (n := w) (by omega)]
    have := ref_l0 hs hm hw hqs 63 0 0 (by omega) (by rw [Nat.div_eq_of_lt (by omega)]; omega) (by omega)
    exact this
  by_cases g : 0 < q
  · refine ev_pos (by omega) (ev_neg (by omega) ?_)
    have e : ((9223372036854775807 : Int) / (q : Int)) = ((9223372036854775807 / q : Nat) : Int) := by rw [Int.natCast_ediv]; rfl
    have hb : 9223372036854775807 / q ≤ 9223372036854775807 := Nat.div_le_self _ _
    have o1 := Nat.div_lt_iff_lt_mul (x := 9223372036854775807) (y := s) g
    rw [e]
    generalize 9223372036854775807 / q = m at *
    rw [w64 (by omega) (by omega)]
    by_cases o : m < s
    · have o2 := o1.1 o
      rw [Nat.mul_comm] at o2
      rw [decide_eq_true (by omega : (s : Int) > (m : Int)), if_pos (Nat.lt_of_lt_of_le (by omega : 9223372036854775807 < q * s) (Nat.le_add_right _ _))]
      exact Ev.step (fun k => berthref02_Share.j1.eq_2 _ _ _ _ _ k) (ev_pos rfl (ev_some _))
    · have o2 : ¬ (9223372036854775807 < s * q) := fun h => o (o1.2 h)
      rw [Nat.mul_comm] at o2
      rw [decide_eq_false (by omega : ¬ (s : Int) > (m : Int))]
      exact F (by omega)
  · exact ev_neg (by omega) (F (by rw [show q = 0 by omega]; omega))
section
variable {p w s : Int} (hp : p ≤ 9223372036854775807) (hs : s ≤ 9223372036854775807) (hw : w ≤ 9223372036854775807)
include hp hs hw
theorem refshare_ev : Ev (fun k => berthref02_Share.f k p w s) (shareV p w s) := by
  unfold berthref02_Share.f shareV
  have T : Ev (fun k => berthref02_Share.j0 k p w s true) (0, 26) := Ev.step (fun k => berthref02_Share.j0.eq_2 _ _ _ _ k) (ev_pos rfl (ev_some _))
  by_cases h1 : p < 0
  · rw [if_pos (Or.inl h1)]; exact ev_pos h1 T
  · refine ev_neg h1 ?_
    by_cases h2 : s < 0
    · rw [if_pos (Or.inr (Or.inl h2))]; exact ev_pos h2 T
    · refine ev_neg h2 ?_
      by_cases h3 : w < 1
      · rw [if_pos (Or.inr (Or.inr h3)), decide_eq_true h3]; exact T
      · rw [if_neg (by omega), decide_eq_false h3]
        have e := ref_j0 (p := p.toNat) (w := w.toNat) (s := s.toNat) (by omega) (by omega) (by omega) (by omega)
        rw [show ((p.toNat : Nat) : Int) = p by omega, show ((w.toNat : Nat) : Int) = w by omega, show ((s.toNat : Nat) : Int) = s by omega] at e
        exact e
end
end Go.Proofs.Ytbibnendaddbhaa.Q
