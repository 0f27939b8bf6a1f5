/- The reference's reader, plain: counts, signed numbers, the head: it answers what the code's reader answers. -/
import Derived.Test.YtlocnfkkfpfpfaazCDm19
import Derived.Test.YtlocnfkkfpfpfaazCDm29
import Derived.Test.YtlocnfkkfpfpfaazCDm31
namespace Go.Proofs.Ytlocnfkkfpfpfaa.D
open Go.RowKit Go.Proofs.YtlocnfkkfpfpfaaW.PrintWords Go.Proofs.YtlocnfkkfpfpfaaW.PrintLast Go.Proofs.YtlocnfkkfpfpfaaW.PrintMore Go.Proofs.Ytlocnfkkfpfpfaa.Six
set_option linter.unusedSimpArgs false
set_option linter.unusedVariables false
set_option linter.unusedSectionVars false
theorem Reader_head_l0_succ (k : Nat) (x2 : List Int) (x3 : Int) (x1000 : List Int) (x1001 : Int) (x1002 : Int) (x1003 : Int) : berthref20_Reader_head.l0 (k + 1) x2 x3 x1000 x1001 x1002 x1003 = if x3 < 4 then (if x3 ≥ (x1000.length : Int) then ((berthref20_Reader_fail.f x1000 x1001 x1002 x1003 201 x3).bind fun bt345 => (some (bt345.1, bt345.2.1, bt345.2.2))) else (if 0 ≤ x3 then (if x3 < (x1000.length : Int) then (if x3 < (x2.length : Int) then (if (rd x1000 x3) = (rd x2 x3) then (berthref20_Reader_head.l0 k x2 (wrap64 (x3 + 1)) x1000 x1001 x1002 x1003) else ((berthref20_Reader_fail.f x1000 x1001 x1002 x1003 200 x3).bind fun bt350 => (some (bt350.1, bt350.2.1, bt350.2.2)))) else (none)) else (none)) else (none))) else (some (4, x1002, x1003)) := rfl
theorem Reader_count_l0_succ (k : Nat) (x1 : Int) (x2 : Int) (x7 : Int) (x8 : Int) (x9 : Int) (x1000 : List Int) (x1001 : Int) (x1002 : Int) (x1003 : Int) : berthref20_Reader_count.l0 (k + 1) x1 x2 x7 x8 x9 x1000 x1001 x1002 x1003 = if x1001 ≥ (x1000.length : Int) then ((berthref20_Reader_fail.f x1000 x1001 x1002 x1003 201 (x1000.length : Int)).bind fun bt353 => (some (0, bt353.1, bt353.2.1, bt353.2.2))) else (if 0 ≤ x1001 then (if x1001 < (x1000.length : Int) then (if (wrap64 ((wrap64 (x1001 + 1)) - x7)) = 9 then (berthref20_Reader_count.j1 k x1 x2 x7 x8 x9 (wrap64 (rd x1000 x1001)) (decide ((wrap64 (rd x1000 x1001)) ≥ 128)) x1000 (wrap64 (x1001 + 1)) x1002 x1003) else (berthref20_Reader_count.j1 k x1 x2 x7 x8 x9 (wrap64 (rd x1000 x1001)) false x1000 (wrap64 (x1001 + 1)) x1002 x1003)) else (none)) else (none)) := rfl
theorem Reader_count_j1_succ (k : Nat) (x1 : Int) (x2 : Int) (x7 : Int) (x8 : Int) (x9 : Int) (x10 : Int) (x65 : Bool) (x1000 : List Int) (x1001 : Int) (x1002 : Int) (x1003 : Int) : berthref20_Reader_count.j1 (k + 1) x1 x2 x7 x8 x9 x10 x65 x1000 x1001 x1002 x1003 = if x65 = true then ((berthref20_Reader_fail.f x1000 x1001 x1002 x1003 202 x7).bind fun bt357 => (some (0, bt357.1, bt357.2.1, bt357.2.2))) else (if x10 < 128 then (if x10 = 0 then (if (wrap64 (x1001 - x7)) > 1 then ((berthref20_Reader_fail.f x1000 x1001 x1002 x1003 202 x7).bind fun bt360 => (some (0, bt360.1, bt360.2.1, bt360.2.2))) else (if (wrap64 (x8 + (wrap64 ((Int.tmod x10 128) * x9)))) < x1 then ((berthref20_Reader_fail.f x1000 x1001 x1002 x1003 205 x7).bind fun bt363 => (some (0, bt363.1, bt363.2.1, bt363.2.2))) else (if (wrap64 (x8 + (wrap64 ((Int.tmod x10 128) * x9)))) > x2 then ((berthref20_Reader_fail.f x1000 x1001 x1002 x1003 205 x7).bind fun bt366 => (some (0, bt366.1, bt366.2.1, bt366.2.2))) else (some (wrap64 (x8 + (wrap64 ((Int.tmod x10 128) * x9))), x1001, x1002, x1003))))) else (if (wrap64 (x8 + (wrap64 ((Int.tmod x10 128) * x9)))) < x1 then ((berthref20_Reader_fail.f x1000 x1001 x1002 x1003 205 x7).bind fun bt369 => (some (0, bt369.1, bt369.2.1, bt369.2.2))) else (if (wrap64 (x8 + (wrap64 ((Int.tmod x10 128) * x9)))) > x2 then ((berthref20_Reader_fail.f x1000 x1001 x1002 x1003 205 x7).bind fun bt372 => (some (0, bt372.1, bt372.2.1, bt372.2.2))) else (some (wrap64 (x8 + (wrap64 ((Int.tmod x10 128) * x9))), x1001, x1002, x1003))))) else (berthref20_Reader_count.l0 k x1 x2 x7 (wrap64 (x8 + (wrap64 ((Int.tmod x10 128) * x9)))) (wrap64 (x9 * 128)) x1000 x1001 x1002 x1003)) := rfl
def RefOut {α : Type} (b : Int) (r : Except (Int × Int) (α × Int)) (x : α) (p2 k2 b2 : Int) : Prop :=
  match r with
  | .ok (y, q) => x = y ∧ p2 = q ∧ k2 = 0 ∧ b2 = b
  | .error (k, q) => k2 = k ∧ b2 = q
theorem RefOut.err {α : Type} {b k q p2 : Int} {x : α} : RefOut b (.error (k, q)) x p2 k q := ⟨rfl, rfl⟩
theorem RefOut.ok {α : Type} {b q : Int} {x : α} : RefOut b (.ok (x, q)) x q 0 b := ⟨rfl, rfl, rfl, rfl⟩
theorem fail0 (bs : List Int) (p b a1 a2 : Int) : berthref20_Reader_fail.f bs p 0 b a1 a2 = some (p, a1, a2) := by
  unfold berthref20_Reader_fail.f
  rw [if_pos rfl]
theorem pow128 : ∀ i : _root_.Fin 9, 0 < (128 : Int) ^ i.1 ∧ (128 : Int) ^ i.1 ≤ 72057594037927936 := by decide
theorem step128 (m c u : Int) (h0 : 0 ≤ m) (h1 : m < u) (hu : u ≤ 72057594037927936) (hc0 : 0 ≤ c) (hc : c ≤ 255) :
    wrap64 (m + wrap64 (Int.tmod c 128 * u)) = m + c % 128 * u ∧ 0 ≤ m + c % 128 * u ∧ m + c % 128 * u < u * 128 := by
  rw [Int.tmod_eq_emod_of_nonneg hc0]
  have hd : 0 ≤ c % 128 ∧ c % 128 ≤ 127 := by omega
  generalize c % 128 = d at hd
  have a0 : 0 ≤ d * u := Int.mul_nonneg hd.1 (by omega)
  have a1 : d * u ≤ 127 * u := Int.mul_le_mul_of_nonneg_right hd.2 (by omega)
  generalize d * u = e at a0 a1
  rw [wrap_ e (by omega) (by omega), wrap_ (m + e) (by omega) (by omega)]
  exact ⟨rfl, by omega, by omega⟩
theorem refCount_l (bs : List Int) (hb : Bytes bs) (hlen : bs.length ≤ 200000000000000) (frm lo hi b : Int) (h0 : 0 ≤ frm) : ∀ (f i : Nat) (m : Int) (k : Nat), f + i = 9 → 1 ≤ f → 2 * f < k → 0 ≤ m → m < 128 ^ i → frm + i ≤ bs.length →
 ∃ x p2 k2 b2, berthref20_Reader_count.l0 k lo hi frm m (128 ^ i) bs (frm + i) 0 b = some (x, p2, k2, b2) ∧ RefOut b (countL bs frm lo hi f i (frm + i) m) x p2 k2 b2 ∧ (k2 ≠ 0 → x = 0) := by
 intro f
 induction f with
 | zero => intro i m k _ h; omega
 | succ f ih =>
  intro i m k hfi _ hk hm hmu hle
  obtain ⟨k, rfl⟩ : ∃ j, k = j + 2 := ⟨k - 2, by omega⟩
  obtain ⟨hu0, hu1⟩ := pow128 ⟨i, by omega⟩
  dsimp only at hu0 hu1
  rw [Reader_count_l0_succ, countL_step bs frm lo hi f i (frm + i) m _ _ rfl rfl]
  by_cases hend : (bs.length : Int) ≤ frm + i
  ·
   rw [if_pos hend, if_pos hend, fail0]
   exact ⟨_, _, _, _, rfl, RefOut.err, fun _ => rfl⟩
  ·
   rw [if_neg hend, if_neg hend, if_pos (by omega), if_pos (by omega)]
   have hc : rd bs (frm + i) = bs.getD (frm + i).toNat 0 := rfl
   have hcb : 0 ≤ bs.getD (frm + i).toNat 0 ∧ bs.getD (frm + i).toNat 0 ≤ 255 := by
    rw [List.getD_eq_getElem?_getD, List.getElem?_eq_getElem (show (frm + i).toNat < bs.length by omega)]
    exact hb _ (List.getElem_mem _)
   rw [hc]
   clear hc
   generalize bs.getD (frm + i).toNat 0 = c at hcb
   have hst := step128 m c (128 ^ i) hm hmu hu1 hcb.1 hcb.2
   have hrec : 128 ≤ c → i ≤ 7 → ∃ x p2 k2 b2, berthref20_Reader_count.l0 k lo hi frm (wrap64 (m + wrap64 (Int.tmod c 128 * 128 ^ i))) (wrap64 (128 ^ i * 128)) bs (frm + i + 1) 0 b = some (x, p2, k2, b2) ∧ RefOut b (countL bs frm lo hi f (i + 1) (frm + i + 1) (m + c % 128 * 128 ^ i)) x p2 k2 b2 ∧ (k2 ≠ 0 → x = 0) := by
    intro _ hi7
    obtain ⟨v0, v1⟩ := pow128 ⟨i + 1, by omega⟩
    dsimp only at v0 v1
    have e : (128 : Int) ^ i * 128 = 128 ^ (i + 1) := (Int.pow_succ 128 i).symm
    rw [hst.1, wrap_ _ (by rw [e]; omega) (by rw [e]; omega), e]
    have := ih (i + 1) (m + c % 128 * 128 ^ i) k (by omega) (by omega) (by omega) hst.2.1 (by rw [← e]; exact hst.2.2) (by omega)
    rw [show frm + ((i + 1 : Nat) : Int) = frm + i + 1 by omega] at this
    exact this
   have w1 : wrap64 (frm + i + 1) = frm + i + 1 := wrap_ _ (by omega) (by omega)
   have w2 : wrap64 (frm + i + 1 - frm) = (i : Int) + 1 := by rw [wrap_ _ (by omega) (by omega)]; omega
   have w3 : wrap64 c = c := wrap_ _ (by omega) (by omega)
   clear ih
   have hbody : ∀ x65 : Bool, (x65 = true ↔ i = 8 ∧ 128 ≤ c) → ∃ x p2 k2 b2, berthref20_Reader_count.j1 (k + 1) lo hi frm m (128 ^ i) c x65 bs (frm + i + 1) 0 b = some (x, p2, k2, b2) ∧
    RefOut b (if i = 8 ∧ 128 ≤ c then .error (202, frm) else if 128 ≤ c then countL bs frm lo hi f (i + 1) (frm + i + 1) (m + c % 128 * 128 ^ i) else if c = 0 ∧ 0 < i then .error (202, frm) else if m + c % 128 * 128 ^ i < lo ∨ hi < m + c % 128 * 128 ^ i then .error (205, frm) else .ok (m + c % 128 * 128 ^ i, frm + i + 1)) x p2 k2 b2 ∧ (k2 ≠ 0 → x = 0) := by
    intro x65 h65
    rw [Reader_count_j1_succ, w2]
    by_cases hx : i = 8 ∧ 128 ≤ c
    ·
     rw [if_pos (h65.2 hx), if_pos hx, fail0]
     exact ⟨_, _, _, _, rfl, RefOut.err, fun _ => rfl⟩
    ·
     rw [if_neg (fun h => hx (h65.1 h)), if_neg hx]
     by_cases h128 : 128 ≤ c
     ·
      rw [if_neg (by omega), if_pos h128]
      exact hrec h128 (by omega)
     ·
      rw [if_pos (by omega), if_neg h128, hst.1]
      clear hrec
      generalize m + c % 128 * 128 ^ i = y at hst
      by_cases hz : c = 0
      ·
       rw [if_pos hz]
       by_cases hi0 : 0 < i
       ·
        rw [if_pos (by omega), if_pos ⟨hz, hi0⟩, fail0]
        exact ⟨_, _, _, _, rfl, RefOut.err, fun _ => rfl⟩
       ·
        rw [if_neg (by omega), if_neg (show ¬ (c = 0 ∧ 0 < i) from fun h => hi0 h.2)]
        by_cases hlo : y < lo
        ·
         rw [if_pos hlo, if_pos (Or.inl hlo), fail0]
         exact ⟨_, _, _, _, rfl, RefOut.err, fun _ => rfl⟩
        ·
         rw [if_neg hlo]
         by_cases hhi : y > hi
         ·
          rw [if_pos hhi, if_pos (Or.inr hhi), fail0]
          exact ⟨_, _, _, _, rfl, RefOut.err, fun _ => rfl⟩
         ·
          rw [if_neg hhi, if_neg (by omega)]
          exact ⟨_, _, _, _, rfl, RefOut.ok, fun h => absurd rfl h⟩
      ·
       rw [if_neg hz, if_neg (show ¬ (c = 0 ∧ 0 < i) from fun h => hz h.1)]
       by_cases hlo : y < lo
       ·
        rw [if_pos hlo, if_pos (Or.inl hlo), fail0]
        exact ⟨_, _, _, _, rfl, RefOut.err, fun _ => rfl⟩
       ·
        rw [if_neg hlo]
        by_cases hhi : y > hi
        ·
         rw [if_pos hhi, if_pos (Or.inr hhi), fail0]
         exact ⟨_, _, _, _, rfl, RefOut.err, fun _ => rfl⟩
        ·
         rw [if_neg hhi, if_neg (by omega)]
         exact ⟨_, _, _, _, rfl, RefOut.ok, fun h => absurd rfl h⟩
   rw [w1, w2, w3]
   by_cases h9 : (i : Int) + 1 = 9
   ·
    rw [if_pos h9]
    exact hbody _ (by rw [decide_eq_true_eq]; omega)
   ·
    rw [if_neg h9]
    exact hbody _ ⟨(fun h => by cases h), fun h => absurd (show (i : Int) + 1 = 9 by omega) h9⟩
theorem refCount_f (bs : List Int) (hb : Bytes bs) (hlen : bs.length ≤ 200000000000000) (p lo hi b : Int) (h0 : 0 ≤ p) (h1 : p ≤ bs.length) : ∃ x p2 k2 b2, berthref20_Reader_count.f 20 bs p 0 b lo hi = some (x, p2, k2, b2) ∧ RefOut b (countF bs p lo hi) x p2 k2 b2 ∧ (k2 ≠ 0 → x = 0) := by
  unfold berthref20_Reader_count.f
  rw [if_pos rfl]
  have h := refCount_l bs hb hlen p lo hi b h0 9 0 0 20 rfl (by omega) (by omega) (by omega) (by decide) (by omega)
  rw [show p + ((0 : Nat) : Int) = p by omega] at h
  exact h
end Go.Proofs.Ytlocnfkkfpfpfaa.D
