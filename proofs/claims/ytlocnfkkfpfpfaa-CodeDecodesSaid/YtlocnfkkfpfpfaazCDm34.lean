/- The reference's reader: text. -/
import Derived.Test.YtlocnfkkfpfpfaazCDm33
namespace Go.Proofs.Ytlocnfkkfpfpfaa.D
open Go.RowKit Go.Proofs.YtlocnfkkfpfpfaaW.PrintWords Go.Proofs.YtlocnfkkfpfpfaaW.PrintLast Go.Proofs.YtlocnfkkfpfpfaaW.PrintMore Go.Proofs.Ytlocnfkkfpfpfaa.Six
set_option linter.unusedSimpArgs false
set_option linter.unusedVariables false
set_option linter.unusedSectionVars false
theorem s85_cells {w0 W : World} {g : Nat} {bs : List Int} {p k b : Int} (h : IsS85 w0 W g bs p k b) : ∃ A c, W.cell? ⟨g, 0, none⟩ = some (.slice A bs.length c) ∧ W.cell? ⟨g, 1, none⟩ = some (.int .i64 p) ∧ W.cell? ⟨g, 2, none⟩ = some (.int .i64 k) ∧ W.cell? ⟨g, 3, none⟩ = some (.int .i64 b) ∧ (∀ i, W.frozen? ⟨g, i, none⟩ = false) ∧ bs.length ≤ c ∧ Kd.C (Kd.int .u8) w0 A bs.length bs := by
  obtain ⟨A, c, hb, hg, hC, hc⟩ := h
  exact ⟨A, c, by simp [World.cell?, hb], by simp [World.cell?, hb], by simp [World.cell?, hb], by simp [World.cell?, hb], fun i => by simp [World.frozen?, hb], hc, hC⟩
theorem Stk.got {bs : List Int} {p k b lo hi x p2 k2 b2 : Int} (hs : Stk p k b (countF bs p lo hi) x p2 k2 b2) (h : k = 0 → 0 ≤ p ∧ p ≤ bs.length) (hk2 : k2 = 0) : k = 0 ∧ countF bs p lo hi = .ok (x, p2) ∧ b2 = b ∧ lo ≤ x ∧ x ≤ hi ∧ p < p2 ∧ p2 ≤ bs.length := by
 by_cases hk : k = 0
 ·
  have h1 := hs.1 hk
  cases hc : countF bs p lo hi with
  | error f =>
   obtain ⟨kk, q⟩ := f
   rw [hc] at h1
   have := (countF_tame bs lo hi p (h hk).1 (h hk).2).1 kk q hc
   have := h1.1
   omega
  | ok y =>
   obtain ⟨y, q⟩ := y
   rw [hc] at h1
   obtain ⟨e1, e2, e3, e4⟩ := h1
   have h5 := countF_ok hc
   subst e1 e2
   exact ⟨hk, rfl, e4, h5.1, h5.2.1, h5.2.2.1, h5.2.2.2⟩
 ·
  have := (hs.2 hk).2.1
  omega
theorem Stk.bad {α : Type} {bs : List Int} {p k b lo hi x p2 k2 b2 : Int} (hs : Stk p k b (countF bs p lo hi) x p2 k2 b2) (hk2 : k2 ≠ 0) {r : Except (Int × Int) (α × Int)} (hr : ∀ f, countF bs p lo hi = .error f → r = .error f) (y : α) : Stk p k b r y p2 k2 b2 := by
  refine ⟨fun hk => ?_, hs.2⟩
  have h1 := hs.1 hk
  cases hc : countF bs p lo hi with
  | error f =>
    obtain ⟨kk, q⟩ := f
    rw [hc] at h1
    rw [hr _ hc]
    exact h1
  | ok z =>
    obtain ⟨z, q⟩ := z
    rw [hc] at h1
    exact absurd h1.2.2.1 hk2
theorem KeepBut.trans' {w w1 w2 : World} {g : Nat} (h1 : KeepBut w w1 g none) (h2 : KeepBut w1 w2 g none) : KeepBut w w2 g none :=
  ⟨Nat.le_trans h1.1 h2.1, fun k hk h3 h4 => (h2.2 k (by have := h1.1; omega) h3 h4).trans (h1.2 k hk h3 h4)⟩
set_option maxHeartbeats 4000000 in
set_option maxRecDepth 100000 in
theorem rText (bs : List Int) (hb : Bytes bs) (hlen : bs.length ≤ 200000000000000) (w0 w : World) (g : Nat) (p k b : Int) (hI : IsS85 w0 w g bs p k b) (hB : Below w0.heap.size w0 w) (h : k = 0 → 0 ≤ p ∧ p ≤ bs.length) :
 Calls Try.prog 69 #[.pointer (some ⟨g, 0, none⟩)] w (Leaves w0 w g bs p k b (textF bs p) (fun x v _ => v = .string x)) := by
 have HC := rCount bs hb hlen w0 w g p k b hI hB h 0 127
 go_enter Try.func69, Try.ntmps69
 go_wp2_with (fail)
 refine HC.mono ?_
 rintro e w1 ⟨v, x, p2, k2, b2, rfl, rfl, hI1, hB1, hK1, hS⟩
 clear HC
 obtain ⟨A, c, q0, q1, q2, q3, z, hc, hC⟩ := s85_cells hI1
 by_cases hk2 : k2 = 0
 ·
  obtain ⟨hk, hcf, rfl, hx0, hx1, hp0, hp1⟩ := hS.got h hk2
  subst hk hk2
  by_cases hcut : bs.length - p2 < x
  ·
   have e1 : textF bs p = .error (201, bs.length) := by unfold textF; rw [hcf]; dsimp only; rw [if_pos hcut]
   have w1e : wrap64 ((bs.length : Int) - p2) = bs.length - p2 := wrap_ _ (by omega) (by omega)
   go_wp2_with (fail)
   go_region
   have HF := rFail bs w0 w1.drew g p2 0 b2 201 bs.length hI1.drew hB1.drew
   go_wp2_with ((with_reducible refine HF.mono ?_); rintro e w2 ⟨rfl, hI2, hB2, hK2⟩)
   rw [if_pos trivial] at hI2
   go_ret
   refine ⟨_, ByteArray.empty, p2, 201, bs.length, rfl, rfl, hI2, hB2, KeepBut.trans' hK1 hK2, fun _ => ?_, fun h => absurd rfl h⟩
   rw [e1]
   exact RefOut.err
  ·
   have e1 : textF bs p = .ok (strOfNums ((bs.take (p2 + x).toNat).drop p2.toNat), p2 + x) := by unfold textF; rw [hcf]; dsimp only; rw [if_neg hcut]
   have hsl := cut34 A bs.length c p2 (p2 + x) (by omega) (by omega) (by omega) hc
   have hg := hI1.ge
   have hI2 := (hI1.set_1 (p2 + x)).drew.drew
   have hB2 := (hB1.setCell (show w0.heap.size ≤ (⟨g, 1, none⟩ : Addr).block from hg) (.int .i64 (p2 + x))).drew.drew
   have hm := Kd.C_mid (lo := p2.toNat) (hi := (p2 + x).toNat) (Kd.C_below hC hB2) (by omega) (by omega) hc
   have hln : ((bs.take (p2 + x).toNat).drop p2.toNat).length = (p2 + x).toNat - p2.toNat := by rw [List.length_drop, List.length_take]; omega
   rw [hln] at hm
   have hk1 : (Kd.int .u8).sz = 1 := rfl
   rw [hk1, Nat.mul_one] at hm
   generalize (if c = p2.toNat then A else Option.map (fun x => x.add p2.toNat) A) = A' at hsl hm
   have H1 := Kd.C_string (P := Try.prog) (c := c - p2.toNat) Try.underlying34 Try.underlying5 Try.underlying9 hm
   clear hm hln hk1
   have hcut2 : ¬ (bs.length : Int) - p2 < x := hcut
   have w1e : wrap64 ((bs.length : Int) - p2) = bs.length - p2 := wrap_ _ (by omega) (by omega)
   have w2e : wrap64 (p2 + x) = p2 + x := wrap_ _ (by omega) (by omega)
   have w3e : wrap64 p2 = p2 := wrap_ _ (by omega) (by omega)
   go_wp2_with (fail)
   go_region
   go_wp2_with (fail)
   go_region
   go_wp2_with (fail)
   go_ret
   refine ⟨_, _, p2 + x, 0, b2, rfl, rfl, hI2, hB2, ?_, fun _ => ?_, fun h => absurd rfl h⟩
   ·
    exact KeepBut.trans' hK1 ⟨by simp, fun k _ hk _ => Below.heap_setCell _ _ _ _ (by simpa using hk)⟩
   ·
    rw [e1]
    exact RefOut.ok
 ·
  go_wp2_with (fail)
  go_ret
  exact ⟨_, ByteArray.empty, p2, k2, b2, rfl, rfl, hI1, hB1, hK1, hS.bad hk2 (fun f hf => by unfold textF; rw [hf]) _⟩
end Go.Proofs.Ytlocnfkkfpfpfaa.D
