/- What bits.Div64, as printed, comes to: the quotient. No Go in sight. -/
import Derived.Test.YtbibnendaddbhaaQ6
namespace Go.Proofs.Ytbibnendaddbhaa.Q
open Go.RowKit Go.Proofs.YtbibnendaddbhaaW.PrintWords Go.Proofs.YtbibnendaddbhaaW.PrintLast Go.Proofs.YtbibnendaddbhaaW.PrintMore Go.Proofs.YtbibnendaddbhaaP Go.Proofs.Ytbibnendaddbhaa.All

theorem tdivN (a b : Nat) : Int.tdiv (a : Int) (b : Int) = ((a / b : Nat) : Int) := (Int.ofNat_tdiv a b).symm
theorem wrapN (a : Nat) : IntKind.u64.wrap (a : Int) = ((a % 18446744073709551616 : Nat) : Int) := by rw [wu]; omega
/-- From the first digit on. -/
theorem div_at {y1 y0 u d e s : Nat} (D : Dig y1 y0 u d) (he : e < 4294967296) :
    ∃ z : Int, Ev (fun k => bits_Div64.l0 k (yy y1 y0 : Nat) (s : Nat) y1 y0 u d e (u / y1 : Nat) (u % y1 : Nat)) ((((u * 4294967296 + d) * 4294967296 + e) / yy y1 y0 : Nat), z) := by
  have D2 : Dig y1 y0 (rr y1 y0 u d) e := ⟨D.h1, D.h2, D.h3, D.rlt, he⟩
  have a1 := D.h1; have a2 := D.h2; have a3 := D.h3; have a5 := D.h5; have a6 := D.qlt; have a7 := D.rlt; have a8 := D.ylt; have a9 := D.h4
  have val : ((u * 4294967296 + d) * 4294967296 + e) / yy y1 y0 = qq y1 y0 u d * 4294967296 + qq y1 y0 (rr y1 y0 u d) e := by
    have h := Nat.div_add_mod' (u * 4294967296 + d) (yy y1 y0)
    change qq y1 y0 u d * yy y1 y0 + rr y1 y0 u d = _ at h
    rw [← h, show (qq y1 y0 u d * yy y1 y0 + rr y1 y0 u d) * 4294967296 + e = (rr y1 y0 u d * 4294967296 + e) + (qq y1 y0 u d * 4294967296) * yy y1 y0 by rw [Nat.add_mul, Nat.mul_right_comm]; omega, Nat.add_mul_div_right _ _ D.pos]
    unfold qq; omega
  obtain ⟨f1, f2, f3, f4⟩ := D.first
  obtain ⟨g1, g2, g3, g4⟩ := D2.first
  obtain ⟨z, E⟩ := div_l1 D2 (s := s) (p := qq y1 y0 u d) a6 _ _ g3 g4 g1 g2
  refine ⟨z, div_l0 D _ _ ?_ _ _ f3 f4 f1 f2⟩
  refine Ev.step (fun k => bits_Div64.j2.eq_2 _ _ _ _ _ _ _ _ k) (ev_neg (by omega) ?_)
  have un : IntKind.u64.wrap ((IntKind.u64.wrap ((IntKind.u64.wrap ((u : Int) * 4294967296)) + (d : Int))) - (IntKind.u64.wrap (((qq y1 y0 u d : Nat) : Int) * ((yy y1 y0 : Nat) : Int)))) = ((rr y1 y0 u d : Nat) : Int) := by
    have h := Nat.div_add_mod' (u * 4294967296 + d) (yy y1 y0)
    change qq y1 y0 u d * yy y1 y0 + rr y1 y0 u d = _ at h
    rw [← Int.natCast_mul]
    generalize qq y1 y0 u d * yy y1 y0 = m at *
    rw [wu, wu, wu, wu]
    omega
  rw [un, tdivN]
  have hq : rr y1 y0 u d / y1 < 18446744073709551616 := Nat.lt_of_le_of_lt g2 (by decide)
  rw [wun hq, ← Int.natCast_mul]
  have hm : rr y1 y0 u d / y1 * y1 < 18446744073709551616 := Nat.lt_of_le_of_lt (Nat.div_mul_le_self _ _) (Nat.lt_trans a7 a8)
  rw [wun hm]
  have hr : IntKind.u64.wrap (((rr y1 y0 u d : Nat) : Int) - ((rr y1 y0 u d / y1 * y1 : Nat) : Int)) = ((rr y1 y0 u d % y1 : Nat) : Int) := by
    generalize rr y1 y0 u d / y1 * y1 = m at g3 hm ⊢
    generalize rr y1 y0 u d % y1 = n at g3 g4 ⊢
    generalize rr y1 y0 u d = r at g3 ⊢
    rw [wu]; clear val a7 a8 a9 f1 f2 f3 f4 g1 g2; omega
  rw [hr, val]
  exact E
theorem shlN {y s : Nat} (hs : s ≤ 64) : shl .u64 (y : Int) (s : Int) = ((y * 2 ^ s % 18446744073709551616 : Nat) : Int) := by
  unfold shl
  rw [show min (s : Int).toNat IntKind.u64.bits = s from Nat.min_eq_left hs, wu]
  have : ((2 : Int) ^ s) = ((2 ^ s : Nat) : Int) := by simp
  rw [this, ← Int.natCast_mul]
  omega
theorem shrN {y s : Nat} (hs : s ≤ 64) : shr .u64 (y : Int) (s : Int) = ((y / 2 ^ s : Nat) : Int) := by
  unfold shr
  rw [show min (s : Int).toNat IntKind.u64.bits = s from Nat.min_eq_left hs]
  have : ((2 : Int) ^ s) = ((2 ^ s : Nat) : Int) := by simp
  rw [this, ← Int.natCast_ediv]
theorem div64_eq {h l y : Nat} (hy : y < 18446744073709551616) (hh : h < y) (hl : l < 18446744073709551616) :
    ∃ z : Int, Ev (fun k => bits_Div64.f k (h : Int) (l : Int) (y : Int)) ((((h * 18446744073709551616 + l) / y : Nat) : Int), z) := by
  unfold bits_Div64.f
  by_cases h0 : h = 0
  · subst h0
    apply Exists.intro
    refine ev_neg (by omega) (ev_neg (by omega) (ev_pos rfl (ev_pair ?_)))
    rw [tdivN, wun (Nat.lt_of_le_of_lt (Nat.div_le_self _ _) hl)]
    congr 2
    omega
  · obtain ⟨s, s1, s2, s3, E⟩ := lead (x := y) (by omega) hy
    have hS : 0 < 2 ^ s := Nat.pow_pos (by decide)
    have pw : 2 ^ (64 - s) * 2 ^ s = 18446744073709551616 := ((Nat.pow_add 2 (64 - s) s).symm.trans (congrArg (fun n => 2 ^ n) (by omega : 64 - s + s = 64))).trans (by decide)
    have es : IntKind.u64.wrap (s : Int) = (s : Int) := wun (by omega)
    have et : IntKind.u64.wrap (64 - (s : Int)) = ((64 - s : Nat) : Int) := by rw [wu]; omega
    -- the shifted numbers
    have Y1 : shl .u64 (y : Int) (s : Int) = ((y * 2 ^ s : Nat) : Int) := by rw [shlN (by omega), Nat.mod_eq_of_lt s3]
    have hlt : h * 2 ^ s < y * 2 ^ s := Nat.mul_lt_mul_of_pos_right hh hS
    have H1 : shl .u64 (h : Int) (s : Int) = ((h * 2 ^ s : Nat) : Int) := by rw [shlN (by omega), Nat.mod_eq_of_lt (by omega)]
    have L1 : shr .u64 (l : Int) ((64 - s : Nat) : Int) = ((l / 2 ^ (64 - s) : Nat) : Int) := shrN (by omega)
    have L2 : shl .u64 (l : Int) (s : Int) = ((l * 2 ^ s % 18446744073709551616 : Nat) : Int) := shlN (by omega)
    have lb : l / 2 ^ (64 - s) < 2 ^ s := Nat.div_lt_of_lt_mul (by omega)
    have ld : l * 2 ^ s / 18446744073709551616 = l / 2 ^ (64 - s) := by rw [← pw, Nat.mul_div_mul_right _ _ hS]
    have U : ∀ n : Nat, n < 2 ^ s → n < 18446744073709551616 → Go.bits .or .u64 ((h * 2 ^ s : Nat) : Int) (n : Int) = ((h * 2 ^ s + n : Nat) : Int) := by
      intro n hn hm
      rw [bits_or_u64_nat _ _ (by omega) hm, Nat.mul_comm h, Nat.two_pow_add_eq_or_of_lt hn]
    have sp : 2 ^ s < 18446744073709551616 := by
      have : 1 * 2 ^ s ≤ y * 2 ^ s := Nat.mul_le_mul (by omega) (Nat.le_refl _)
      omega
    have tot : (h * 18446744073709551616 + l) * 2 ^ s = (h * 2 ^ s + l / 2 ^ (64 - s)) * 18446744073709551616 + l * 2 ^ s % 18446744073709551616 := by
      rw [← ld, Nat.add_mul, Nat.mul_right_comm]
      omega
    have ult : h * 2 ^ s + l / 2 ^ (64 - s) < y * 2 ^ s := by
      have := Nat.mul_lt_mul_of_pos_right (show h * 18446744073709551616 + l < y * 18446744073709551616 by omega) hS
      rw [tot, Nat.mul_right_comm y] at this
      omega
    have res : (h * 18446744073709551616 + l) / y = ((h * 2 ^ s + l / 2 ^ (64 - s)) * 18446744073709551616 + l * 2 ^ s % 18446744073709551616) / (y * 2 ^ s) := by
      rw [← tot, Nat.mul_div_mul_right _ _ hS]
    have u1 := U _ lb (by omega)
    rw [res]
    generalize h * 2 ^ s + l / 2 ^ (64 - s) = u at *
    generalize hb : l * 2 ^ s % 18446744073709551616 = b at *
    have hb2 : b < 18446744073709551616 := by omega
    generalize hY : y * 2 ^ s = Y at *
    have D : Dig (Y / 4294967296) (Y % 4294967296) u (b / 4294967296) := ⟨by omega, by omega, by omega, by omega, by omega⟩
    obtain ⟨z, F⟩ := div_at D (e := b % 4294967296) (s := s) (by omega)
    have ey : yy (Y / 4294967296) (Y % 4294967296) = Y := by unfold yy; omega
    have eb : (u * 4294967296 + b / 4294967296) * 4294967296 + b % 4294967296 = u * 18446744073709551616 + b := by omega
    rw [ey, eb] at F
    refine ⟨z, ev_neg (by omega) (ev_neg (by omega) (ev_neg (by omega) (Ev.bind E ?_)))⟩
    have f1 : ((Y : Nat) : Int) / 4294967296 = ((Y / 4294967296 : Nat) : Int) := by omega
    have f2 : Go.bits .and .u64 (Y : Int) 4294967295 = ((Y % 4294967296 : Nat) : Int) := by rw [and_low32 _ (by omega) (by omega)]; omega
    have f3 : ((b : Nat) : Int) / 4294967296 = ((b / 4294967296 : Nat) : Int) := by omega
    have f4 : Go.bits .and .u64 (b : Int) 4294967295 = ((b % 4294967296 : Nat) : Int) := by rw [and_low32 _ (by omega) (by omega)]; omega
    have hq : u / (Y / 4294967296) ≤ u := Nat.div_le_self _ _
    have f5 : IntKind.u64.wrap (Int.tdiv ((u : Nat) : Int) ((Y / 4294967296 : Nat) : Int)) = ((u / (Y / 4294967296) : Nat) : Int) := by rw [tdivN, wun (by omega)]
    have hm := Nat.div_add_mod' u (Y / 4294967296)
    have f6 : IntKind.u64.wrap ((u : Int) - IntKind.u64.wrap (((u / (Y / 4294967296) : Nat) : Int) * ((Y / 4294967296 : Nat) : Int))) = ((u % (Y / 4294967296) : Nat) : Int) := by
      rw [← Int.natCast_mul]
      generalize u / (Y / 4294967296) * (Y / 4294967296) = m at *
      rw [wun (by omega), wu]
      omega
    simp only [es, et, Y1, H1, L1, L2, u1, f1, f2, f3, f4, f5, f6]
    refine ev_pos (by omega) (ev_pos (by omega) (ev_neg (by omega) F))
end Go.Proofs.Ytbibnendaddbhaa.Q
