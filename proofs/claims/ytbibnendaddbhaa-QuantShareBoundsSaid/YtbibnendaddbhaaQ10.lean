/- What the walks of 'wide', 'plus' and 'below' come to: the product, the sum, the order of the numbers that stand in four parts. -/
import Derived.Test.YtbibnendaddbhaaQ9
namespace Go.Proofs.Ytbibnendaddbhaa.Q
open Go.RowKit Go.Proofs.YtbibnendaddbhaaW.PrintWords Go.Proofs.YtbibnendaddbhaaW.PrintLast Go.Proofs.YtbibnendaddbhaaW.PrintMore Go.Proofs.YtbibnendaddbhaaP Go.Proofs.Ytbibnendaddbhaa.All

theorem P4_congr {a b c d e f g h : Int} (h1 : a = e) (h2 : b = f) (h3 : c = g) (h4 : d = h) : P4 a b c d = P4 e f g h := by rw [h1, h2, h3, h4]
theorem wideV_eq {x y : Nat} (hx : x ≤ 9223372036854775807) (hy : y ≤ 9223372036854775807) : wideV (x : Int) (y : Int) = L4 (x * y) := by
  have e : x * y = (x / 4294967296) * (y / 4294967296) * (4294967296 * 4294967296) + ((x / 4294967296) * (y % 4294967296) + (x % 4294967296) * (y / 4294967296)) * 4294967296 + (x % 4294967296) * (y % 4294967296) := by
    rw [← Lib.split_mul, Nat.div_add_mod' x 4294967296, Nat.div_add_mod' y 4294967296]
  have ha : (x / 4294967296) * (y / 4294967296) ≤ 2147483647 * 2147483647 := Nat.mul_le_mul (by omega) (by omega)
  have hb : (x / 4294967296) * (y % 4294967296) ≤ 2147483647 * 4294967295 := Nat.mul_le_mul (by omega) (by omega)
  have hc : (x % 4294967296) * (y / 4294967296) ≤ 4294967295 * 2147483647 := Nat.mul_le_mul (by omega) (by omega)
  have hd := Lib.half_mul_le (a := x % 4294967296) (b := y % 4294967296) (by omega) (by omega)
  have a0 : Go.bits .and .i64 (x : Int) 4294967295 = ((x % 4294967296 : Nat) : Int) := by rw [i64_and32]; omega
  have b0 : Go.bits .and .i64 (y : Int) 4294967295 = ((y % 4294967296 : Nat) : Int) := by rw [i64_and32]; omega
  have a1 : ((x : Int) / 4294967296) = ((x / 4294967296 : Nat) : Int) := by omega
  have b1 : ((y : Int) / 4294967296) = ((y / 4294967296 : Nat) : Int) := by omega
  unfold wideV L4
  rw [a0, b0, a1, b1, e]
  simp only []
  rw [wun (n := x % 4294967296) (by omega), wun (n := y % 4294967296) (by omega), wun (n := x / 4294967296) (by omega), wun (n := y / 4294967296) (by omega)]
  simp only [← Int.natCast_mul]
  generalize (x / 4294967296) * (y / 4294967296) = a at *
  generalize (x / 4294967296) * (y % 4294967296) = b at *
  generalize (x % 4294967296) * (y / 4294967296) = c at *
  generalize (x % 4294967296) * (y % 4294967296) = d at *
  rw [wun (n := a) (by omega), wun (n := b) (by omega), wun (n := c) (by omega), wun (n := d) (by omega)]
  have e2 : IntKind.u64.wrap ((d : Int) / 4294967296 + (c : Int)) = ((d / 4294967296 + c : Nat) : Int) := by rw [wu]; omega
  rw [e2]
  generalize h2 : d / 4294967296 + c = m
  rw [and_low32 (d : Int) (by omega) (by omega), and_low32 (m : Int) (by omega) (by omega)]
  have e3 : IntKind.u64.wrap ((m : Int) % 4294967296 + (b : Int)) = ((m % 4294967296 + b : Nat) : Int) := by rw [wu]; omega
  rw [e3]
  generalize h3 : m % 4294967296 + b = q
  rw [and_low32 (q : Int) (by omega) (by omega)]
  have e4 : IntKind.u64.wrap (IntKind.u64.wrap ((m : Int) / 4294967296 + (q : Int) / 4294967296) + (a : Int)) = ((m / 4294967296 + q / 4294967296 + a : Nat) : Int) := by rw [wu, wu]; omega
  rw [e4]
  generalize h4 : m / 4294967296 + q / 4294967296 + a = t
  rw [and_low32 (t : Int) (by omega) (by omega)]
  rw [w64 (n := (d : Int) % 4294967296) (by omega) (by omega), w64 (n := (q : Int) % 4294967296) (by omega) (by omega), w64 (n := (t : Int) % 4294967296) (by omega) (by omega), w64 (n := (t : Int) / 4294967296) (by omega) (by omega)]
  exact P4_congr (by omega) (by omega) (by omega) (by omega)
theorem plusV_eq {n m : Nat} (hn : n < 85070591730234615865843651857942052864) (hm : m ≤ 9223372036854775807) :
    plusV ((n % 4294967296 : Nat) : Int) ((n / 4294967296 % 4294967296 : Nat) : Int) ((n / 18446744073709551616 % 4294967296 : Nat) : Int) ((n / 79228162514264337593543950336 : Nat) : Int) (m : Int) = L4 (n + m) := by
  unfold plusV L4
  simp only [i64_and32]
  have e0 : wrap64 (((n % 4294967296 : Nat) : Int) + (m : Int) % 4294967296) = ((n % 4294967296 + m % 4294967296 : Nat) : Int) := by rw [w64 (by omega) (by omega)]; omega
  rw [e0]
  have e1 : wrap64 (wrap64 (((n / 4294967296 % 4294967296 : Nat) : Int) + (m : Int) / 4294967296) + ((n % 4294967296 + m % 4294967296 : Nat) : Int) / 4294967296) = ((n / 4294967296 % 4294967296 + m / 4294967296 + (n % 4294967296 + m % 4294967296) / 4294967296 : Nat) : Int) := by
    rw [w64 (n := ((n / 4294967296 % 4294967296 : Nat) : Int) + (m : Int) / 4294967296) (by omega) (by omega), w64 (by omega) (by omega)]; omega
  rw [e1]
  generalize hp : n / 4294967296 % 4294967296 + m / 4294967296 + (n % 4294967296 + m % 4294967296) / 4294967296 = p
  have e2 : wrap64 (((n / 18446744073709551616 % 4294967296 : Nat) : Int) + (p : Int) / 4294967296) = ((n / 18446744073709551616 % 4294967296 + p / 4294967296 : Nat) : Int) := by rw [w64 (by omega) (by omega)]; omega
  rw [e2]
  generalize hq : n / 18446744073709551616 % 4294967296 + p / 4294967296 = q
  rw [w64 (n := ((n / 79228162514264337593543950336 : Nat) : Int) + (q : Int) / 4294967296) (by omega) (by omega)]
  exact P4_congr (by omega) (by omega) (by omega) (by omega)

theorem wide_calls {x y : Nat} (hx : x ≤ 9223372036854775807) (hy : y ≤ 9223372036854775807) (w : World) :
    Calls Try.prog 16 #[.int .i64 (x : Int), .int .i64 (y : Int)] w fun re w' => re = .returned (L4 (x * y)) ∧ Below w.heap.size w w' := by
  rw [← wideV_eq hx hy]; exact wide.walk _ _ w
theorem plus_calls {n m : Nat} (hn : n < 85070591730234615865843651857942052864) (hm : m ≤ 9223372036854775807) (w : World) :
    Calls Try.prog 17 #[L4 n, .int .i64 (m : Int)] w fun re w' => re = .returned (L4 (n + m)) ∧ Below w.heap.size w w' := by
  rw [← plusV_eq hn hm]; exact plus.walk _ _ _ _ _ w
theorem below_calls (n m : Nat) (w : World) :
    Calls Try.prog 18 #[L4 n, L4 m] w fun re w' => re = .returned (.bool (decide (n < m))) ∧ Below w.heap.size w w' := by
  unfold L4
  by_cases h3 : n / 79228162514264337593543950336 = m / 79228162514264337593543950336
  · rw [← h3]
    by_cases h2 : n / 18446744073709551616 % 4294967296 = m / 18446744073709551616 % 4294967296
    · rw [← h2]
      by_cases h1 : n / 4294967296 % 4294967296 = m / 4294967296 % 4294967296
      · rw [← h1]
        by_cases h0 : n % 4294967296 = m % 4294967296
        · rw [← h0]
          have : n = m := by omega
          subst this
          rw [decide_eq_false (Nat.lt_irrefl n)]
          exact below.walkE _ _ _ _ w
        · have : decide (n < m) = decide (((n % 4294967296 : Nat) : Int) < ((m % 4294967296 : Nat) : Int)) := decide_eq_decide.2 (by omega)
          rw [this]; exact below.walk0 _ _ _ _ _ w (by omega)
      · have : decide (n < m) = decide (((n / 4294967296 % 4294967296 : Nat) : Int) < ((m / 4294967296 % 4294967296 : Nat) : Int)) := decide_eq_decide.2 (by omega)
        rw [this]; exact below.walk1 _ _ _ _ _ _ w (by omega)
    · have : decide (n < m) = decide (((n / 18446744073709551616 % 4294967296 : Nat) : Int) < ((m / 18446744073709551616 % 4294967296 : Nat) : Int)) := decide_eq_decide.2 (by omega)
      rw [this]; exact below.walk2 _ _ _ _ _ _ _ w (by omega)
  · have : decide (n < m) = decide (((n / 79228162514264337593543950336 : Nat) : Int) < ((m / 79228162514264337593543950336 : Nat) : Int)) := decide_eq_decide.2 (by omega)
    rw [this]; exact below.walk3 _ _ _ _ _ _ _ _ w (by omega)
end Go.Proofs.Ytbibnendaddbhaa.Q
