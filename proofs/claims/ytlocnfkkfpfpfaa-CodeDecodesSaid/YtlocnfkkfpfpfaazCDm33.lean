/- The reference's reader: contracts of count, signed, nums, head. -/
import Derived.Test.YtlocnfkkfpfpfaazCDm32
namespace Go.Proofs.Ytlocnfkkfpfpfaa.D
open Go.RowKit Go.Proofs.YtlocnfkkfpfpfaaW.PrintWords Go.Proofs.YtlocnfkkfpfpfaaW.PrintLast Go.Proofs.YtlocnfkkfpfpfaaW.PrintMore Go.Proofs.Ytlocnfkkfpfpfaa.Six
set_option linter.unusedSimpArgs false
set_option linter.unusedVariables false
set_option linter.unusedSectionVars false
theorem Reader_nums_l0_succ (k : Nat) (x1 : Int) (x5 : List Int) (x6 : Int) (x1000 : List Int) (x1001 : Int) (x1002 : Int) (x1003 : Int) : berthref20_Reader_nums.l0 (k + 1) x1 x5 x6 x1000 x1001 x1002 x1003 = if x6 < x1 then (berthref20_Reader_nums.j1 k x1 x5 x6 (x1002 == 0) x1000 x1001 x1002 x1003) else (berthref20_Reader_nums.j1 k x1 x5 x6 false x1000 x1001 x1002 x1003) := rfl
theorem Reader_nums_j1_succ (k : Nat) (x1 : Int) (x5 : List Int) (x6 : Int) (x19 : Bool) (x1000 : List Int) (x1001 : Int) (x1002 : Int) (x1003 : Int) : berthref20_Reader_nums.j1 (k + 1) x1 x5 x6 x19 x1000 x1001 x1002 x1003 = if x19 = true then ((berthref20_Reader_signed.f k x1000 x1001 x1002 x1003).bind fun bt392 => (if x6 > 0 then (if bt392.2.2.1 = 0 then (if 0 ≤ (wrap64 (x6 - 1)) then (if (wrap64 (x6 - 1)) < (x5.length : Int) then (if bt392.1 ≤ (rd x5 (wrap64 (x6 - 1))) then ((berthref20_Reader_fail.f x1000 bt392.2.1 bt392.2.2.1 bt392.2.2.2 204 x1001).bind fun bt397 => (if x5.length < 17592186044416 then (berthref20_Reader_nums.l0 k x1 (x5 ++ [bt392.1]) (wrap64 (x6 + 1)) x1000 bt397.1 bt397.2.1 bt397.2.2) else (none))) else (if x5.length < 17592186044416 then (berthref20_Reader_nums.l0 k x1 (x5 ++ [bt392.1]) (wrap64 (x6 + 1)) x1000 bt392.2.1 bt392.2.2.1 bt392.2.2.2) else (none))) else (none)) else (none)) else (if x5.length < 17592186044416 then (berthref20_Reader_nums.l0 k x1 (x5 ++ [bt392.1]) (wrap64 (x6 + 1)) x1000 bt392.2.1 bt392.2.2.1 bt392.2.2.2) else (none))) else (if x5.length < 17592186044416 then (berthref20_Reader_nums.l0 k x1 (x5 ++ [bt392.1]) (wrap64 (x6 + 1)) x1000 bt392.2.1 bt392.2.2.1 bt392.2.2.2) else (none)))) else (some (x5, x1001, x1002, x1003)) := rfl
theorem wrap_prevN (i : Nat) (h : 0 < i) (hn : i ≤ 9223372036854775807) : wrap64 ((i : Int) - 1) = ((i - 1 : Nat) : Int) := by rw [wrap_ _ (by omega) (by omega)]; omega
def Stk {α : Type} (p k b : Int) (r : Except (Int × Int) (α × Int)) (x : α) (p2 k2 b2 : Int) : Prop := (k = 0 → RefOut b r x p2 k2 b2) ∧ (k ≠ 0 → p2 = p ∧ k2 = k ∧ b2 = b)
theorem fail_n0 (bs : List Int) (p k b a1 a2 : Int) (hk : k ≠ 0) : berthref20_Reader_fail.f bs p k b a1 a2 = some (p, k, b) := by
  unfold berthref20_Reader_fail.f
  rw [if_neg hk]
section
variable (bs : List Int) (hb : Bytes bs) (hlen : bs.length ≤ 200000000000000)
include hb hlen
theorem refCount_g (p k b lo hi : Int) (h : k = 0 → 0 ≤ p ∧ p ≤ bs.length) : ∃ x p2 k2 b2, berthref20_Reader_count.f 20 bs p k b lo hi = some (x, p2, k2, b2) ∧ Stk p k b (countF bs p lo hi) x p2 k2 b2 ∧ (k2 ≠ 0 → x = 0) := by
 by_cases hk : k = 0
 ·
  subst hk
  obtain ⟨x, p2, k2, b2, h1, h2, h3⟩ := refCount_f bs hb hlen p lo hi b (h rfl).1 (h rfl).2
  exact ⟨x, p2, k2, b2, h1, ⟨fun _ => h2, fun h => absurd rfl h⟩, h3⟩
 ·
  refine ⟨0, p, k, b, ?_, ⟨fun h => absurd h hk, fun _ => ⟨rfl, rfl, rfl⟩⟩, fun _ => rfl⟩
  unfold berthref20_Reader_count.f
  rw [if_neg hk]
theorem refSigned_g (p k b : Int) (h : k = 0 → 0 ≤ p ∧ p ≤ bs.length) : ∃ x p2 k2 b2, berthref20_Reader_signed.f 20 bs p k b = some (x, p2, k2, b2) ∧ Stk p k b (numF bs p) x p2 k2 b2 := by
 obtain ⟨n, p2, k2, b2, h1, ⟨h2, h3⟩, _⟩ := refCount_g bs hb hlen p k b 0 2000000000000000000 h
 have hn : k = 0 → k2 = 0 → 0 ≤ n ∧ n ≤ 2000000000000000000 := fun hk hk2 => by
  have := h2 hk
  cases hc : countF bs p 0 2000000000000000000 with
  | ok y =>
   obtain ⟨y, q⟩ := y
   rw [hc] at this
   have h4 := countF_ok hc
   rw [this.1]
   omega
  | error f =>
   obtain ⟨kk, q⟩ := f
   rw [hc] at this
   have ht := (countF_tame bs 0 2000000000000000000 p (h hk).1 (h hk).2).1 kk q hc
   have := this.1
   omega
 have hval : ∀ v : Int, (k = 0 → k2 = 0 → v = if n % 2 = 1 then -(n / 2) - 1 else n / 2) → Stk p k b (numF bs p) v p2 k2 b2 := fun v hv => ⟨fun hk => by
  have h4 := h2 hk
  unfold numF
  cases hc : countF bs p 0 2000000000000000000 with
  | ok y =>
   obtain ⟨y, q⟩ := y
   rw [hc] at h4
   obtain ⟨e1, e2, e3, e4⟩ := h4
   subst e1
   exact ⟨hv hk e3, e2, e3, e4⟩
  | error f =>
   obtain ⟨kk, q⟩ := f
   rw [hc] at h4
   exact h4, h3⟩
 unfold berthref20_Reader_signed.f
 rw [h1, Option.bind_some]
 dsimp only
 by_cases hm : Int.tmod n 2 = 0
 ·
  rw [if_pos hm]
  refine ⟨_, _, _, _, rfl, hval _ fun hk hk2 => ?_⟩
  obtain ⟨a0, a1⟩ := hn hk hk2
  rw [Int.tmod_eq_emod_of_nonneg a0] at hm
  rw [Int.tdiv_eq_ediv_of_nonneg a0, wrap_ _ (by omega) (by omega), if_neg (by omega)]
 ·
  rw [if_neg hm]
  refine ⟨_, _, _, _, rfl, hval _ fun hk hk2 => ?_⟩
  obtain ⟨a0, a1⟩ := hn hk hk2
  rw [Int.tmod_eq_emod_of_nonneg a0] at hm
  rw [Int.tdiv_eq_ediv_of_nonneg a0, wrap_ (n / 2) (by omega) (by omega), wrap_ (-(n / 2)) (by omega) (by omega), wrap_ _ (by omega) (by omega), if_pos (by omega)]
theorem refNums_l (n : Nat) (hn : n ≤ 5000) (F : Except (Int × Int) (List Int × Int)) (b0 : Int) : ∀ (r i fu : Nat) (acc : List Int) (p k b : Int), n - i = r → i ≤ n → 2 * r + 30 < fu → acc.length = i → (k = 0 → 0 ≤ p ∧ p ≤ bs.length ∧ b = b0 ∧ listL 0 (numF bs) cmpI (n - i) p acc = F) → (k ≠ 0 → F = .error (k, b)) →
 ∃ res p2 k2 b2, berthref20_Reader_nums.l0 fu n acc i bs p k b = some (res, p2, k2, b2) ∧ RefOut b0 F res p2 k2 b2 ∧ res.length ≤ n := by
 intro r
 induction r with
 | zero =>
  intro i fu acc p k b hr hi hf ha h0 h1
  obtain ⟨fu, rfl⟩ : ∃ m, fu = m + 2 := ⟨fu - 2, by omega⟩
  rw [Reader_nums_l0_succ, if_neg (by omega), Reader_nums_j1_succ, if_neg (by decide)]
  refine ⟨_, _, _, _, rfl, ?_, by omega⟩
  by_cases hk : k = 0
  ·
   obtain ⟨_, _, h4, h5⟩ := h0 hk
   rw [hr] at h5
   rw [← h5]
   exact ⟨rfl, rfl, hk, h4⟩
  ·
   rw [h1 hk]
   exact ⟨rfl, rfl⟩
 | succ r ih =>
  intro i fu acc p k b hr hi hf ha h0 h1
  obtain ⟨fu, rfl⟩ : ∃ m, fu = m + 2 := ⟨fu - 2, by omega⟩
  rw [Reader_nums_l0_succ, if_pos (by omega), Reader_nums_j1_succ]
  by_cases hk : k = 0
  ·
   subst hk
   rw [if_pos (by rfl)]
   obtain ⟨hp0, hp1, hb0, hL⟩ := h0 rfl
   obtain ⟨x, p2, k2, b2, g1, g2, _⟩ := refSigned_g bs hb hlen p 0 b (fun _ => ⟨hp0, hp1⟩)
   have g1' : berthref20_Reader_signed.f fu bs p 0 b = some (x, p2, k2, b2) := at_rounds (fun j => berthref20_Reader_signed.mono bs p 0 b j) (by omega) g1
   rw [g1', Option.bind_some]
   dsimp only
   have g3 := g2 rfl
   clear g1 g1' g2
   rw [show n - i = (n - i - 1) + 1 by omega] at hL
   unfold listL at hL
   have hin : ((i : Nat) : Int) > 0 ↔ 0 < acc.length := by omega
   have hin2 : i < n := by omega
   have hn2 : n ≤ 9223372036854775807 := by omega
   have hal : acc.length < 17592186044416 := by omega
   cases hc : numF bs p with
   | error f =>
    obtain ⟨kk, q⟩ := f
    rw [hc] at g3 hL
    obtain ⟨e1, e2⟩ := g3
    subst e1 e2
    have ht := (numF_tame bs p hp0 hp1).1 _ _ hc
    have hk2 : k2 ≠ 0 := by omega
    have H := ih (i + 1) fu (acc ++ [x]) p2 k2 b2 (by omega) (by omega) (by omega) (by rw [List.length_append, ha]; rfl) (fun h => absurd h hk2) (fun _ => hL.symm)
    rw [wrap_nextB i n hin2 hn2]
    by_cases hi0 : (i : Int) > 0
    ·
     rw [if_pos hi0, if_neg hk2, if_pos hal]
     exact H
    ·
     rw [if_neg hi0, if_pos hal]
     exact H
   | ok y =>
    obtain ⟨y, q⟩ := y
    rw [hc] at g3 hL
    obtain ⟨e1, e2, e3, e4⟩ := g3
    subst e1 e2 e3 e4
    have ht := (numF_tame bs p hp0 hp1).2 _ _ hc
    dsimp only at hL
    by_cases hi0 : (i : Int) > 0
    ·
     have wp : wrap64 ((i : Int) - 1) = ((i - 1 : Nat) : Int) := by rw [wrap_ _ (by omega) (by omega)]; omega
     rw [if_pos hi0, if_pos rfl, wp, if_pos (by omega), if_pos (by omega)]
     have hrd : rd acc ((i - 1 : Nat) : Int) = acc.getD (acc.length - 1) 0 := by unfold rd; rw [Int.toNat_natCast, ha]
     rw [hrd]
     have hcl : 0 ≤ cmpI (acc.getD (acc.length - 1) 0) x ↔ x ≤ acc.getD (acc.length - 1) 0 := by unfold cmpI; split <;> (try split) <;> omega
     by_cases hle : x ≤ acc.getD (acc.length - 1) 0
     ·
      rw [if_pos hle, fail0, Option.bind_some]
      rw [if_pos ⟨by omega, hcl.2 hle⟩] at hL
      dsimp only
      rw [if_pos hal, wrap_nextB i n hin2 hn2]
      exact ih (i + 1) fu (acc ++ [x]) p2 204 p (by omega) (by omega) (by omega) (by rw [List.length_append, ha]; rfl) (fun h => absurd h (by decide)) (fun _ => hL.symm)
     ·
      rw [if_neg hle, if_pos hal, wrap_nextB i n hin2 hn2]
      rw [if_neg (fun h => hle (hcl.1 h.2))] at hL
      exact ih (i + 1) fu (acc ++ [x]) p2 0 b2 (by omega) (by omega) (by omega) (by rw [List.length_append, ha]; rfl) (fun _ => ⟨by omega, by omega, hb0, by rw [show n - (i + 1) = n - i - 1 by omega]; exact hL⟩) (fun h => absurd rfl h)
    ·
     rw [if_neg hi0, if_pos hal, wrap_nextB i n hin2 hn2]
     rw [if_neg (fun h => by have := h.1; omega)] at hL
     exact ih (i + 1) fu (acc ++ [x]) p2 0 b2 (by omega) (by omega) (by omega) (by rw [List.length_append, ha]; rfl) (fun _ => ⟨by omega, by omega, hb0, by rw [show n - (i + 1) = n - i - 1 by omega]; exact hL⟩) (fun h => absurd rfl h)
  ·
   rw [if_neg (show ¬ ((k == 0) = true) by simp [hk])]
   refine ⟨_, _, _, _, rfl, ?_, by omega⟩
   rw [h1 hk]
   exact ⟨rfl, rfl⟩
theorem refHead_l (b : Int) : ∀ (d i fu : Nat), d + i = 4 → d + 1 < fu → i ≤ bs.length → ∃ p2 k2 b2, berthref20_Reader_head.l0 fu [66, 82, 84, 1] i bs 0 0 b = some (p2, k2, b2) ∧ (match headL bs d i with | none => p2 = 4 ∧ k2 = 0 ∧ b2 = b | some f => k2 = f.1 ∧ b2 = f.2) := by
 intro d
 induction d with
 | zero =>
  intro i fu hd hf hi
  obtain ⟨fu, rfl⟩ : ∃ m, fu = m + 1 := ⟨fu - 1, by omega⟩
  rw [Reader_head_l0_succ, if_neg (by omega)]
  exact ⟨_, _, _, rfl, rfl, rfl, rfl⟩
 | succ d ih =>
  intro i fu hd hf hi
  obtain ⟨fu, rfl⟩ : ∃ m, fu = m + 1 := ⟨fu - 1, by omega⟩
  rw [Reader_head_l0_succ, if_pos (by omega)]
  unfold headL
  by_cases he : bs.length ≤ i
  ·
   rw [if_pos (by omega), if_pos he, fail0]
   refine ⟨_, _, _, rfl, rfl, ?_⟩
   show (i : Int) = bs.length
   omega
  ·
   rw [if_neg (by omega), if_neg he, if_pos (by omega), if_pos (by omega), if_pos (by simp only [List.length_cons, List.length_nil]; omega)]
   have e1 : rd bs (i : Int) = bs.getD i 0 := by unfold rd; rw [Int.toNat_natCast]
   have e2 : rd [66, 82, 84, 1] (i : Int) = headB i := by
    unfold rd headB
    rw [Int.toNat_natCast]
    match i, (show i < 4 by omega) with
    | 0, _ => rfl
    | 1, _ => rfl
    | 2, _ => rfl
    | 3, _ => rfl
   rw [e1, e2]
   clear e1 e2
   by_cases hh : bs.getD i 0 = headB i
   ·
    rw [if_pos hh, if_neg (fun h => h hh), wrap_nextB i 4 (by omega) (by omega)]
    exact ih (i + 1) fu (by omega) (by omega) (by omega)
   ·
    rw [if_neg hh, if_pos hh, fail0]
    exact ⟨_, _, _, rfl, rfl, rfl⟩
end
def Leaves {α : Type} (w0 w : World) (g : Nat) (bs : List Int) (p k b : Int) (r : Except (Int × Int) (α × Int)) (V : α → Value → World → Prop) (e : Ending) (w' : World) : Prop :=
  ∃ v x p2 k2 b2, e = .returned v ∧ V x v w' ∧ IsS85 w0 w' g bs p2 k2 b2 ∧ Below w0.heap.size w0 w' ∧ KeepBut w w' g none ∧ Stk p k b r x p2 k2 b2
section
variable (bs : List Int) (hb : Bytes bs) (hlen : bs.length ≤ 200000000000000) (w0 w : World) (g : Nat) (p k b : Int) (hI : IsS85 w0 w g bs p k b) (hB : Below w0.heap.size w0 w) (h : k = 0 → 0 ≤ p ∧ p ≤ bs.length)
include hb hlen hI hB h
theorem rCountZ (lo hi : Int) : Calls Try.prog 42 #[.pointer (some ⟨g, 0, none⟩), .int .i64 lo, .int .i64 hi] w fun e w' => ∃ x p2 k2 b2, e = .returned (.int .i64 x) ∧ IsS85 w0 w' g bs p2 k2 b2 ∧ Below w0.heap.size w0 w' ∧ KeepBut w w' g none ∧ Stk p k b (countF bs p lo hi) x p2 k2 b2 ∧ (k2 ≠ 0 → x = 0) := by
 obtain ⟨x, p2, k2, b2, h1, h2, h3⟩ := refCount_g bs hb hlen p k b lo hi h
 refine (berthref20_Reader_count.calls 20 g bs p k b lo hi x p2 k2 b2 w0 w hI hB h1).mono ?_
 rintro e w' ⟨rfl, i1, i2, i3⟩
 exact ⟨x, p2, k2, b2, rfl, i1, i2, i3, h2, h3⟩
theorem rCount (lo hi : Int) : Calls Try.prog 42 #[.pointer (some ⟨g, 0, none⟩), .int .i64 lo, .int .i64 hi] w (Leaves w0 w g bs p k b (countF bs p lo hi) (fun x v _ => v = .int .i64 x)) := by
 refine (rCountZ bs hb hlen w0 w g p k b hI hB h lo hi).mono ?_
 rintro e w' ⟨x, p2, k2, b2, rfl, i1, i2, i3, h2, _⟩
 exact ⟨_, x, p2, k2, b2, rfl, rfl, i1, i2, i3, h2⟩
theorem rNumsN (n : Nat) (hn : n ≤ 5000) : Calls Try.prog 44 #[.pointer (some ⟨g, 0, none⟩), .int .i64 n] w (Leaves w0 w g bs p k b (listL 0 (numF bs) cmpI n p []) (fun x v w' => (Kd.int .i64).R 3 w' w.heap.size (fun _ => True) v x ∧ x.length ≤ n)) := by
 have hh : ∃ res p2 k2 b2, berthref20_Reader_nums.f (2 * n + 31) bs p k b n = some (res, p2, k2, b2) ∧ Stk p k b (listL 0 (numF bs) cmpI n p []) res p2 k2 b2 ∧ res.length ≤ n := by
  unfold berthref20_Reader_nums.f
  by_cases hk : k = 0
  ·
   subst hk
   obtain ⟨res, p2, k2, b2, h1, h2, hl⟩ := refNums_l bs hb hlen n hn (listL 0 (numF bs) cmpI n p []) b n 0 (2 * n + 31) [] p 0 b rfl (by omega) (by omega) rfl (fun _ => ⟨(h rfl).1, (h rfl).2, rfl, rfl⟩) (fun h => absurd rfl h)
   exact ⟨res, p2, k2, b2, h1, ⟨fun _ => h2, fun h => absurd rfl h⟩, hl⟩
  ·
   refine ⟨[], p, k, b, ?_, ⟨fun h => absurd h hk, fun _ => ⟨rfl, rfl, rfl⟩⟩, by simp⟩
   rw [show 2 * n + 31 = (2 * n + 29) + 1 + 1 by omega, Reader_nums_l0_succ]
   have e : (k == 0) = false := by simp [hk]
   rw [e]
   split <;> rw [Reader_nums_j1_succ, if_neg (by decide)]
 obtain ⟨res, p2, k2, b2, h1, h2, hl⟩ := hh
 refine (berthref20_Reader_nums.calls _ g bs p k b n res p2 k2 b2 w0 w hI hB h1).mono ?_
 rintro e w' ⟨v, rfl, i0, i1, i2, i3⟩
 exact ⟨v, res, p2, k2, b2, rfl, ⟨i0, hl⟩, i1, i2, i3, h2⟩
theorem rNums (n : Nat) (hn : n ≤ 5000) : Calls Try.prog 44 #[.pointer (some ⟨g, 0, none⟩), .int .i64 n] w (Leaves w0 w g bs p k b (listL 0 (numF bs) cmpI n p []) (fun x v w' => (Kd.int .i64).R 3 w' w.heap.size (fun _ => True) v x)) := by
 refine (rNumsN bs hb hlen w0 w g p k b hI hB h n hn).mono ?_
 rintro e w' ⟨v, x, p2, k2, b2, rfl, hv, hr⟩
 exact ⟨v, x, p2, k2, b2, rfl, hv.1, hr⟩
end
theorem rHead (bs : List Int) (hb : Bytes bs) (hlen : bs.length ≤ 200000000000000) (w0 w : World) (g : Nat) (b : Int) (hI : IsS85 w0 w g bs 0 0 b) (hB : Below w0.heap.size w0 w) :
 Calls Try.prog 41 #[.pointer (some ⟨g, 0, none⟩)] w fun e w' => e = .returned (.tuple #[]) ∧ ∃ p2 k2 b2, IsS85 w0 w' g bs p2 k2 b2 ∧ Below w0.heap.size w0 w' ∧ KeepBut w w' g none ∧ (match headL bs 4 0 with | none => p2 = 4 ∧ k2 = 0 ∧ b2 = b | some f => k2 = f.1 ∧ b2 = f.2) := by
 obtain ⟨p2, k2, b2, h1, h2⟩ := refHead_l bs hb hlen b 4 0 6 rfl (by omega) (by omega)
 refine (berthref20_Reader_head.calls 6 g bs 0 0 b p2 k2 b2 w0 w hI hB h1).mono ?_
 rintro e w' ⟨rfl, i1, i2, i3⟩
 exact ⟨rfl, p2, k2, b2, i1, i2, i3, h2⟩
theorem rFail (bs : List Int) (w0 w : World) (g : Nat) (p k b a1 a2 : Int) (hI : IsS85 w0 w g bs p k b) (hB : Below w0.heap.size w0 w) :
 Calls Try.prog 47 #[.pointer (some ⟨g, 0, none⟩), .int .i64 a1, .int .i64 a2] w fun e w' => e = .returned (.tuple #[]) ∧ (if k = 0 then IsS85 w0 w' g bs p a1 a2 else IsS85 w0 w' g bs p k b) ∧ Below w0.heap.size w0 w' ∧ KeepBut w w' g none := by
 by_cases hk : k = 0
 ·
  subst hk
  refine (berthref20_Reader_fail.calls g bs p 0 b a1 a2 p a1 a2 w0 w hI hB (fail0 _ _ _ _ _)).mono ?_
  rintro e w' ⟨rfl, i1, i2, i3⟩
  exact ⟨rfl, by rw [if_pos rfl]; exact i1, i2, i3⟩
 ·
  refine (berthref20_Reader_fail.calls g bs p k b a1 a2 p k b w0 w hI hB (fail_n0 _ _ _ _ _ _ hk)).mono ?_
  rintro e w' ⟨rfl, i1, i2, i3⟩
  exact ⟨rfl, by rw [if_neg hk]; exact i1, i2, i3⟩
end Go.Proofs.Ytlocnfkkfpfpfaa.D
