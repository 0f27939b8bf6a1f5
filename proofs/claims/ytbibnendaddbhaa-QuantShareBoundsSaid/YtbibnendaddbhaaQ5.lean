/- What bits.Mul64, bits.Len64 and bits.Div64, as printed, come to: plain numbers. No Go in sight. -/
import Derived.Test.YtbibnendaddbhaaAllx5
import Derived.Test.YtbibnendaddbhaaPW
import Derived.Lib.Mul64
import Derived.Laws.MathBits
import Derived.Laws.Bits64b
namespace Go.Proofs.Ytbibnendaddbhaa.Q
open Go.RowKit Go.Proofs.YtbibnendaddbhaaW.PrintWords Go.Proofs.YtbibnendaddbhaaW.PrintLast Go.Proofs.YtbibnendaddbhaaW.PrintMore Go.Proofs.YtbibnendaddbhaaP Go.Proofs.Ytbibnendaddbhaa.All

theorem wu (n : Int) : IntKind.u64.wrap n = n % 18446744073709551616 := by simp [IntKind.wrap, IntKind.signed, IntKind.bits]
theorem wun {n : Nat} (h : n < 18446744073709551616) : IntKind.u64.wrap (n : Int) = (n : Int) := by rw [wu]; omega
theorem mul64_eq {x y : Nat} (hx : x < 18446744073709551616) (hy : y < 18446744073709551616) :
    bits_Mul64.f (x : Int) (y : Int) = some (((x * y / 18446744073709551616 : Nat) : Int), ((x * y % 18446744073709551616 : Nat) : Int)) := by
  obtain ⟨h1, h2, h3, h4⟩ := Lib.mul64_hi x y hx hy
  have k1 := Nat.div_lt_iff_lt_mul (x := x) (k := 4294967296) (y := 4294967296) (by decide)
  have q : x * y / 18446744073709551616 < 18446744073709551616 := by
    rw [Nat.div_lt_iff_lt_mul (by decide)]
    exact Nat.lt_of_le_of_lt (Nat.mul_le_mul (Nat.le_of_lt hx) (Nat.le_refl y)) (Nat.mul_lt_mul_of_pos_left hy (by decide))
  have a1 : ((x : Int) / 4294967296) = ((x / 4294967296 : Nat) : Int) := by omega
  have b1 : ((y : Int) / 4294967296) = ((y / 4294967296 : Nat) : Int) := by omega
  have a0 : Go.bits .and .u64 (x : Int) 4294967295 = ((x % 4294967296 : Nat) : Int) := by rw [and_low32 _ (by omega) (by omega)]; omega
  have b0 : Go.bits .and .u64 (y : Int) 4294967295 = ((y % 4294967296 : Nat) : Int) := by rw [and_low32 _ (by omega) (by omega)]; omega
  have hc : (x / 4294967296) * (y / 4294967296) < 18446744073709551616 := by
    have := Lib.half_mul_le (a := x / 4294967296) (b := y / 4294967296) (by omega) (by omega); omega
  have hd : (x / 4294967296) * (y % 4294967296) < 18446744073709551616 := by omega
  have he : (x % 4294967296) * (y / 4294967296) < 18446744073709551616 := by omega
  unfold bits_Mul64.f
  rw [a1, b1, a0, b0]
  simp only [← Int.natCast_mul]
  rw [wun hc, wun hd, wun h1, wun he]
  rw [← h4] at q ⊢
  generalize (x / 4294967296) * (y / 4294967296) = a at *
  generalize (x / 4294967296) * (y % 4294967296) = b at *
  generalize (x % 4294967296) * (y / 4294967296) = c at *
  generalize (x % 4294967296) * (y % 4294967296) = d at *
  have e1 : ((d : Int) / 4294967296) = ((d / 4294967296 : Nat) : Int) := by omega
  rw [e1, ← Int.natCast_add, wun h2]
  generalize hm : b + d / 4294967296 = m at *
  have e2 : ((m : Int) / 4294967296) = ((m / 4294967296 : Nat) : Int) := by omega
  rw [e2, ← Int.natCast_add, wun (by omega), and_low32 _ (by omega) (by omega)]
  have e3 : ((m : Int) % 4294967296) = ((m % 4294967296 : Nat) : Int) := by omega
  rw [e3, ← Int.natCast_add, wun h3]
  have e4 : (((m % 4294967296 + c : Nat) : Int) / 4294967296) = (((m % 4294967296 + c) / 4294967296 : Nat) : Int) := by omega
  rw [e4, ← Int.natCast_add, wun q, wu]
  congr 2

/-! ### Len64 -/
def lenTab : ByteArray := ⟨#[0, 1, 2, 2, 3, 3, 3, 3, 4, 4, 4, 4, 4, 4, 4, 4, 5, 5, 5, 5, 5, 5, 5, 5, 5, 5, 5, 5, 5, 5, 5, 5, 6, 6, 6, 6, 6, 6, 6, 6, 6, 6, 6, 6, 6, 6, 6, 6, 6, 6, 6, 6, 6, 6, 6, 6, 6, 6, 6, 6, 6, 6, 6, 6, 7, 7, 7, 7, 7, 7, 7, 7, 7, 7, 7, 7, 7, 7, 7, 7, 7, 7, 7, 7, 7, 7, 7, 7, 7, 7, 7, 7, 7, 7, 7, 7, 7, 7, 7, 7, 7, 7, 7, 7, 7, 7, 7, 7, 7, 7, 7, 7, 7, 7, 7, 7, 7, 7, 7, 7, 7, 7, 7, 7, 7, 7, 7, 7, 8, 8, 8, 8, 8, 8, 8, 8, 8, 8, 8, 8, 8, 8, 8, 8, 8, 8, 8, 8, 8, 8, 8, 8, 8, 8, 8, 8, 8, 8, 8, 8, 8, 8, 8, 8, 8, 8, 8, 8, 8, 8, 8, 8, 8, 8, 8, 8, 8, 8, 8, 8, 8, 8, 8, 8, 8, 8, 8, 8, 8, 8, 8, 8, 8, 8, 8, 8, 8, 8, 8, 8, 8, 8, 8, 8, 8, 8, 8, 8, 8, 8, 8, 8, 8, 8, 8, 8, 8, 8, 8, 8, 8, 8, 8, 8, 8, 8, 8, 8, 8, 8, 8, 8, 8, 8, 8, 8, 8, 8, 8, 8, 8, 8, 8, 8, 8, 8, 8, 8, 8, 8, 8, 8, 8, 8, 8, 8]⟩
theorem lenTab_fact : ∀ i : Nat, i < 256 → 1 ≤ i → (1 ≤ bt lenTab (i : Int) ∧ bt lenTab (i : Int) ≤ 8 ∧ 128 ≤ i * 2 ^ (8 - (bt lenTab (i : Int)).toNat) ∧ (i + 1) * 2 ^ (8 - (bt lenTab (i : Int)).toNat) ≤ 256) := by decide +kernel
theorem len_j0 {x c : Nat} (h1 : 1 ≤ x) (h2 : x < 4294967296) (hc : c ≤ 32) :
    ∃ b : Nat, b ≤ 24 ∧ 1 ≤ x / 2 ^ b ∧ x / 2 ^ b < 256 ∧ Ev (fun k => bits_Len64.j0 k (x : Int) (c : Int)) ((c : Int) + (b : Int) + bt lenTab ((x / 2 ^ b : Nat) : Int)) := by
  by_cases a : 65536 ≤ x
  · by_cases d : 256 ≤ x / 65536
    · have g := lenTab_fact (x / 16777216) (by omega) (by omega)
      refine ⟨24, by omega, by omega, by omega, Ev.step (fun k => bits_Len64.j0.eq_2 _ _ k) ?_⟩
      refine ev_pos (by omega) (ev_pos (by omega) (ev_pos (by omega) (ev_pos (by omega) (ev_some' ?_))))
      show wrap64 (wrap64 (wrap64 ((c : Int) + 16) + 8) + wrap64 (bt lenTab ((x : Int) / 65536 / 256 % 256))) = _
      rw [show ((x : Int) / 65536 / 256 % 256) = ((x / 16777216 : Nat) : Int) by omega]
      show _ = (c : Int) + ((24 : Nat) : Int) + bt lenTab ((x / 16777216 : Nat) : Int)
      rw [w64 (n := (c : Int) + 16) (by omega) (by omega), w64 (n := (c : Int) + 16 + 8) (by omega) (by omega), w64 (n := bt _ _) (by omega) (by omega), w64 (by omega) (by omega)]
      omega
    · have g := lenTab_fact (x / 65536) (by omega) (by omega)
      refine ⟨16, by omega, by omega, by omega, Ev.step (fun k => bits_Len64.j0.eq_2 _ _ k) ?_⟩
      refine ev_pos (by omega) (ev_neg (by omega) (ev_pos (by omega) (ev_pos (by omega) (ev_some' ?_))))
      show wrap64 (wrap64 ((c : Int) + 16) + wrap64 (bt lenTab ((x : Int) / 65536 % 256))) = _
      rw [show ((x : Int) / 65536 % 256) = ((x / 65536 : Nat) : Int) by omega]
      show _ = (c : Int) + ((16 : Nat) : Int) + bt lenTab ((x / 65536 : Nat) : Int)
      rw [w64 (n := (c : Int) + 16) (by omega) (by omega), w64 (n := bt _ _) (by omega) (by omega), w64 (by omega) (by omega)]
      omega
  · by_cases d : 256 ≤ x
    · have g := lenTab_fact (x / 256) (by omega) (by omega)
      refine ⟨8, by omega, by omega, by omega, Ev.step (fun k => bits_Len64.j0.eq_2 _ _ k) ?_⟩
      refine ev_neg (by omega) (ev_pos (by omega) (ev_pos (by omega) (ev_pos (by omega) (ev_some' ?_))))
      show wrap64 (wrap64 ((c : Int) + 8) + wrap64 (bt lenTab ((x : Int) / 256 % 256))) = _
      rw [show ((x : Int) / 256 % 256) = ((x / 256 : Nat) : Int) by omega]
      show _ = (c : Int) + ((8 : Nat) : Int) + bt lenTab ((x / 256 : Nat) : Int)
      rw [w64 (n := (c : Int) + 8) (by omega) (by omega), w64 (n := bt _ _) (by omega) (by omega), w64 (by omega) (by omega)]
      omega
    · have g := lenTab_fact x (by omega) (by omega)
      refine ⟨0, by omega, by omega, by omega, Ev.step (fun k => bits_Len64.j0.eq_2 _ _ k) ?_⟩
      refine ev_neg (by omega) (ev_neg (by omega) (ev_pos (by omega) (ev_pos (by omega) (ev_some' ?_))))
      show wrap64 ((c : Int) + wrap64 (bt lenTab ((x : Int) % 256))) = _
      rw [show ((x : Int) % 256) = ((x : Nat) : Int) by omega, show x / 2 ^ 0 = x by omega]
      rw [w64 (n := bt _ _) (by omega) (by omega), w64 (by omega) (by omega)]
      omega
/-- The count that makes the leading bit a one. -/
theorem lead {x : Nat} (h1 : 1 ≤ x) (h2 : x < 18446744073709551616) :
    ∃ n : Nat, n ≤ 63 ∧ 9223372036854775808 ≤ x * 2 ^ n ∧ x * 2 ^ n < 18446744073709551616 ∧ Ev (fun k => bits_LeadingZeros64.f k (x : Int)) (n : Int) := by
  have C : ∃ b : Nat, b ≤ 56 ∧ 1 ≤ x / 2 ^ b ∧ x / 2 ^ b < 256 ∧ Ev (fun k => bits_Len64.f k (x : Int)) ((b : Int) + bt lenTab ((x / 2 ^ b : Nat) : Int)) := by
    by_cases a : 4294967296 ≤ x
    · obtain ⟨b, b1, b2, b3, E⟩ := len_j0 (x := x / 4294967296) (c := 32) (by omega) (by omega) (by omega)
      have e : x / 4294967296 / 2 ^ b = x / 2 ^ (32 + b) := by rw [Nat.pow_add, ← Nat.div_div_eq_div_mul]
      rw [e] at b2 b3 E
      refine ⟨32 + b, by omega, b2, b3, ?_⟩
      unfold bits_Len64.f
      refine ev_pos (by omega) ?_
      have e2 : ((x : Int) / 4294967296) = ((x / 4294967296 : Nat) : Int) := by omega
      rw [e2]
      have e3 : (((32 : Nat) : Int) + (b : Int) + bt lenTab ((x / 2 ^ (32 + b) : Nat) : Int)) = (((32 + b : Nat) : Int) + bt lenTab ((x / 2 ^ (32 + b) : Nat) : Int)) := by omega
      rw [e3] at E
      exact E
    · obtain ⟨b, b1, b2, b3, E⟩ := len_j0 (x := x) (c := 0) (by omega) (by omega) (by omega)
      refine ⟨b, by omega, b2, b3, ?_⟩
      unfold bits_Len64.f
      refine ev_neg (by omega) ?_
      have e3 : (((0 : Nat) : Int) + (b : Int) + bt lenTab ((x / 2 ^ b : Nat) : Int)) = ((b : Int) + bt lenTab ((x / 2 ^ b : Nat) : Int)) := by omega
      rw [e3] at E
      exact E
  obtain ⟨b, b1, b2, b3, E⟩ := C
  obtain ⟨g1, g2, g3, g4⟩ := lenTab_fact _ b3 b2
  have hB : 0 < 2 ^ b := Nat.pow_pos (by decide)
  have l1 : x / 2 ^ b * 2 ^ b ≤ x := Nat.div_mul_le_self _ _
  have l2 : x < (x / 2 ^ b + 1) * 2 ^ b := by rw [← Nat.div_lt_iff_lt_mul hB]; omega
  generalize hL : bt lenTab ((x / 2 ^ b : Nat) : Int) = L at *
  generalize x / 2 ^ b = i at *
  have hn : 2 ^ (64 - b - L.toNat) = 2 ^ (56 - b) * 2 ^ (8 - L.toNat) := (congrArg (fun n => 2 ^ n) (by omega : 64 - b - L.toNat = (56 - b) + (8 - L.toNat))).trans (Nat.pow_add 2 (56 - b) (8 - L.toNat))
  have hb : 2 ^ b * 2 ^ (56 - b) = 72057594037927936 := by
    exact ((Nat.pow_add 2 b (56 - b)).symm.trans (congrArg (fun n => 2 ^ n) (by omega : b + (56 - b) = 56))).trans (by decide)
  refine ⟨64 - b - L.toNat, by omega, ?_, ?_, ?_⟩
  · rw [hn]
    have m1 := Nat.mul_le_mul l1 (Nat.le_refl (2 ^ (56 - b) * 2 ^ (8 - L.toNat)))
    have m2 : i * 2 ^ b * (2 ^ (56 - b) * 2 ^ (8 - L.toNat)) = i * 2 ^ (8 - L.toNat) * 72057594037927936 := by rw [← hb]; ac_rfl
    omega
  · rw [hn]
    have m1 := Nat.mul_lt_mul_of_pos_right l2 (show 0 < 2 ^ (56 - b) * 2 ^ (8 - L.toNat) from Nat.mul_pos (Nat.pow_pos (by decide)) (Nat.pow_pos (by decide)))
    have m2 : (i + 1) * 2 ^ b * (2 ^ (56 - b) * 2 ^ (8 - L.toNat)) = (i + 1) * 2 ^ (8 - L.toNat) * 72057594037927936 := by rw [← hb]; ac_rfl
    omega
  · unfold bits_LeadingZeros64.f
    refine Ev.bind E (ev_some' ?_)
    rw [w64 (by omega) (by omega)]
    omega
end Go.Proofs.Ytbibnendaddbhaa.Q
