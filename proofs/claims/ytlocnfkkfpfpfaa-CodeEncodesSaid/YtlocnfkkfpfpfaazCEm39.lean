/- CodeEncodes: its walk. -/
import Derived.Test.YtlocnfkkfpfpfaazCEm36
import Derived.Test.YtlocnfkkfpfpfaazCEm38
namespace Go.Proofs.Ytlocnfkkfpfpfaa.D
open Go.RowKit Go.Proofs.YtlocnfkkfpfpfaaW.PrintWords Go.Proofs.YtlocnfkkfpfpfaaW.PrintLast Go.Proofs.YtlocnfkkfpfpfaaW.PrintMore Go.Proofs.Ytlocnfkkfpfpfaa.Six
set_option linter.unusedSimpArgs false
set_option linter.unusedVariables false
def lens {α : Type} (l : List (List α)) : Nat := (l.map List.length).sum
theorem lens_step {α : Type} (l : List (List α)) (i : Nat) (h : i < l.length) : lens (l.drop i) = l[i].length + lens (l.drop (i + 1)) := by
  unfold lens
  rw [List.drop_eq_getElem_cons h, List.map_cons, List.sum_cons]
section
variable (T : List ByteArray) (N : List Int) (S : List (List ByteArray)) (M : List (List Int)) (C : List S74) (d l : Int)
theorem small_l1' (hlM : M.length ≤ 140737488351232) : ∀ (r i n k : Nat), M.length - i = r → r < k → n + lens (M.drop i) < 8388608 → berthlaw20_small.l1 k n i T N S M C d l = some true := by
  intro r
  induction r with
  | zero =>
    intro i n k hn hk h0
    obtain ⟨k, rfl⟩ : ∃ m, k = m + 1 := ⟨k - 1, by omega⟩
    rw [small_l1_succ, if_neg (by omega), decide_eq_true (by omega)]
  | succ r ih =>
    intro i n k hn hk h0
    obtain ⟨k, rfl⟩ : ∃ m, k = m + 1 := ⟨k - 1, by omega⟩
    have hlt : i < M.length := by omega
    rw [lens_step M i hlt] at h0
    rw [small_l1_succ, if_pos (Int.ofNat_lt.2 hlt), show rd_L3 M (i : Int) = M[i] by simp [rd_L3, hlt], if_pos (by omega), if_pos (Int.natCast_nonneg _), wrap_plus n M[i].length 0 (by omega) (by omega), wrap_next' i _ hlt hlM]
    exact ih (i + 1) (n + M[i].length) k (by omega) (by omega) (by omega)
theorem small_l0' (hlM : M.length ≤ 140737488351232) (hlS : S.length ≤ 140737488351232) : ∀ (r i n k : Nat), S.length - i = r → r + M.length + 2 < k → n + lens (S.drop i) + lens M < 8388608 → berthlaw20_small.l0 k n i T N S M C d l = some true := by
  intro r
  induction r with
  | zero =>
    intro i n k hn hk h0
    obtain ⟨k, rfl⟩ : ∃ m, k = m + 2 := ⟨k - 2, by omega⟩
    rw [small_l0_succ, if_neg (by omega), small_j1_succ]
    exact small_l1' T N S M C d l hlM M.length 0 n k (by omega) (by omega) (by rw [List.drop_zero]; omega)
  | succ r ih =>
    intro i n k hn hk h0
    obtain ⟨k, rfl⟩ : ∃ m, k = m + 2 := ⟨k - 2, by omega⟩
    have hlt : i < S.length := by omega
    rw [lens_step S i hlt] at h0
    rw [small_l0_succ, if_pos (Int.ofNat_lt.2 hlt), show rd_L2 S (i : Int) = S[i] by simp [rd_L2, hlt], if_pos (by omega), if_pos (Int.natCast_nonneg _), wrap_plus n S[i].length 0 (by omega) (by omega), wrap_next' i _ hlt hlS]
    exact ih (i + 1) (n + S[i].length) (k + 1) (by omega) (by omega) (by omega)
end
theorem lens_le {α : Type} (l : List (List α)) (h : ∀ x ∈ l, x.length ≤ 1000) : lens l ≤ l.length * 1000 := by
  unfold lens
  induction l with
  | nil => simp
  | cons x l ih =>
    have h1 := h x (List.mem_cons_self ..)
    have h2 := ih (fun y hy => h y (List.mem_cons_of_mem _ hy))
    simp only [List.map_cons, List.sum_cons, List.length_cons]
    omega
theorem small_formed (w : World) (A0 A1 A2 A3 A4 : Option Addr) (c0 c1 c2 c3 c4 : Nat) (g : Pg) (hg : InPg w A0 A1 A2 A3 A4 c0 c1 c2 c3 c4 g) (hf : formedB g = true) :
    Calls Try.prog 11 #[valPg A0 A1 A2 A3 A4 c0 c1 c2 c3 c4 g] w fun e w' => e = .returned (.bool true) ∧ Below w.heap.size w w' := by
  obtain ⟨F1, F2, F3, F4, F5, F6, F7, F8, F9⟩ := formed_form hf
  have hS := lens_le g.S (fun x hx => (F7 x hx).1)
  have hM := lens_le g.M (fun x hx => (F8 x hx).1)
  have h1 := small_l0' g.T g.N g.S g.M g.C g.dep g.loc (by omega) (by omega) g.S.length 0 (g.T.length + g.N.length + g.S.length + g.M.length + g.C.length) (g.S.length + g.M.length + 3) (by omega) (by omega) (by rw [List.drop_zero]; omega)
  have k1 : g.T.length ≤ 140737488351232 ∧ g.N.length ≤ 140737488351232 ∧ g.S.length ≤ 140737488351232 ∧ g.M.length ≤ 140737488351232 ∧ g.C.length ≤ 140737488351232 ∧ g.T.length + g.N.length ≤ 1125899906842624 ∧ g.T.length + g.N.length + g.S.length ≤ 1125899906842624 ∧ g.T.length + g.N.length + g.S.length + g.M.length ≤ 1125899906842624 := by omega
  obtain ⟨m1, m2, m3, m4, m5, m6, m7, m8⟩ := k1
  have m9 : g.T.length ≤ 1125899906842624 := by omega
  have e1 := wrap_plus g.T.length g.N.length 0 m9 m2
  have e2 := wrap_plus (g.T.length + g.N.length) g.S.length 0 m6 m3
  have e3 := wrap_plus (g.T.length + g.N.length + g.S.length) g.M.length 0 m7 m4
  have e4 := wrap_plus (g.T.length + g.N.length + g.S.length + g.M.length) g.C.length 0 m8 m5
  have h2 : berthlaw20_small.f (g.S.length + g.M.length + 3) g.T g.N g.S g.M g.C g.dep g.loc = some true := by
    unfold berthlaw20_small.f
    rw [e1, e2, e3, e4]
    exact h1
  exact berthlaw20_small.calls _ A0 c0 g.T A1 c1 g.N A2 c2 g.S A3 c3 g.M A4 c4 g.C g.dep g.loc true w hg.T hg.lT hg.N hg.lN hg.S hg.lS hg.M hg.lM hg.C hg.lC h2
theorem small_both (w : World) (A0 A1 A2 A3 A4 : Option Addr) (c0 c1 c2 c3 c4 : Nat) (g : Pg) (hg : InPg w A0 A1 A2 A3 A4 c0 c1 c2 c3 c4 g) (f : Fits g) :
 Calls Try.prog 11 #[valPg A0 A1 A2 A3 A4 c0 c1 c2 c3 c4 g] w fun e w' => (∃ r : Bool, e = .returned (.bool r) ∧ (r = true → Small g) ∧ (r = false → formedB g = false)) ∧ Below w.heap.size w w' := by
 cases hf : formedB g with
 | true =>
  refine (small_formed w A0 A1 A2 A3 A4 c0 c1 c2 c3 c4 g hg hf).mono ?_
  rintro e w' ⟨rfl, hb⟩
  obtain ⟨F1, F2, F3, F4, F5, F6, F7, F8, F9⟩ := formed_form hf
  exact ⟨⟨true, rfl, fun _ => ⟨by omega, by omega, by omega, by omega, by omega, fun x hx => by have := (F7 x hx).1; omega, fun x hx => by have := (F8 x hx).1; omega⟩, fun h => by cases h⟩, hb⟩
 | false =>
  refine (small_any w A0 A1 A2 A3 A4 c0 c1 c2 c3 c4 g hg f).mono ?_
  rintro e w' ⟨⟨r, rfl, h⟩, hb⟩
  exact ⟨⟨r, rfl, h, fun _ => rfl⟩, hb⟩
def S32.pg (x : S32) : Pg := ⟨x.f0, x.f1, x.f2, x.f3, x.f4, x.f5, x.f6⟩
set_option maxHeartbeats 4000000 in
set_option maxRecDepth 100000 in
theorem encodes_any (w : World) (A : Option Addr) (c : Nat) (l : List S32) (hC : Kd.C k32 w A l.length l) (hc : l.length ≤ c) (hl : l.length ≤ 140737488351232) (hf : ∀ x ∈ l, Fits (S32.pg x)) :
 Calls Try.prog 4 #[.slice A l.length c] w fun e w' => e = .returned (.bool true) ∧ Below w.heap.size w w' := by
 go_enter Try.func4, Try.ntmps4
 go_wp2_with (fail)
 refine (fixed_any w).mono ?_
 rintro e W1 ⟨rfl, bel⟩
 go_wp2_with (fail)
 go_loopw [15] (fun i wr => ∃ k : Nat, k ≤ l.length ∧ i = .int .i64 k ∧ Below w.heap.size w wr) (fun i _ => l.length - (intOf i).toNat)
 case atStart => exact ⟨0, by omega, rfl, bel⟩
 case round =>
  clear bel
  obtain ⟨k, hk, rfl, bel⟩ := hrel
  by_cases hlt : k < l.length
  ·
   have hC2 := Kd.C_below hC bel
   obtain ⟨ad, B0, b0, B1, b1, B2, b2, B3, b3, B4, b4, rfl, q0, q1, q2, q3, q4, q5, q6, r⟩ := at_T32 hC2 (k : Int) (by omega) (by omega)
   obtain ⟨l0, g0, l1, g1, l2, g2, l3, g3, l4, g4⟩ := r
   have hx : rd_T32 l (k : Int) = l[k] := by simp [rd_T32, hlt]
   rw [hx] at q0 q1 q2 q3 q4 q5 q6 l0 g0 l1 g1 l2 g2 l3 g3 l4 g4
   rw [Int.toNat_natCast] at q0 q1 q2 q3 q4 q5 q6
   have fx := hf _ (List.getElem_mem hlt)
   clear hx hC2
   have hlk : (k : Int) < (l.length : Int) := by omega
   have hk0 : 0 ≤ (k : Int) := by omega
   generalize l[k] = x at q0 q1 q2 q3 q4 q5 q6 l0 g0 l1 g1 l2 g2 l3 g3 l4 g4 fx
   obtain ⟨T, N, S, M, C, dp, lc⟩ := x
   dsimp only [S32.pg] at q0 q1 q2 q3 q4 q5 q6 l0 g0 l1 g1 l2 g2 l3 g3 l4 g4 fx
   have hI : InPg wr B0 B1 B2 B3 B4 b0 b1 b2 b3 b4 ⟨T, N, S, M, C, dp, lc⟩ := ⟨g0, g1, g2, g3, g4, l0, l1, l2, l3, l4⟩
   have hX := heap_alloc_new wr (.cells #[.slice B0 T.length b0, .slice B1 N.length b1, .slice B2 S.length b2, .slice B3 M.length b3, .slice B4 C.length b4, .int .i64 dp, .int .i64 lc] 32 (0, 0))
   have hI2 := hI.below (below_alloc (Below.refl wr.heap.size wr) (.cells #[.slice B0 T.length b0, .slice B1 N.length b1, .slice B2 S.length b2, .slice B3 M.length b3, .slice B4 C.length b4, .int .i64 dp, .int .i64 lc] 32 (0, 0)))
   have bel2 := below_alloc bel (.cells #[.slice B0 T.length b0, .slice B1 N.length b1, .slice B2 S.length b2, .slice B3 M.length b3, .slice B4 C.length b4, .int .i64 dp, .int .i64 lc] 32 (0, 0))
   clear hI g0 g1 g2 g3 g4 l0 l1 l2 l3 l4
   go_wp2_with (fail)
   have hB : InBox w _ wr.heap.size B0 B1 B2 B3 B4 b0 b1 b2 b3 b4 ⟨T, N, S, M, C, dp, lc⟩ := ⟨bel2, hX, hI2⟩
   clear hX hI2 bel2 bel q0 q1 q2 q3 q4 q5 q6
   refine (show Calls _ _ _ _ _ from small_both _ B0 B1 B2 B3 B4 b0 b1 b2 b3 b4 ⟨T, N, S, M, C, dp, lc⟩ hB.inp fx).mono ?_
   rintro e W2 ⟨⟨r, rfl, hs1, hs2⟩, bel⟩
   have hB2 := hB.next bel
   clear hB bel
   generalize wr.heap.size = X at hB2 ⊢
   obtain ⟨q0, q1, q2, q3, q4, q5, q6⟩ := boxed hB2.box
   dsimp only at q0 q1 q2 q3 q4 q5 q6
   cases r with
   | false =>
    have hnf := hs2 rfl
    clear hs1 hs2
    go_wp2_with (fail)
    refine (show Calls _ _ _ _ _ from encode_any W2 B0 B1 B2 B3 B4 b0 b1 b2 b3 b4 ⟨T, N, S, M, C, dp, lc⟩ hB2.inp fx).mono ?_
    rintro e W3 ⟨he, bel⟩
    rw [hnf, if_neg (by decide)] at he
    subst he
    have bel3 := (hB2.next bel).below
    clear hB2 bel q0 q1 q2 q3 q4 q5 q6 hnf
    go_wp2_with (fail)
    go_roundw
    case rel => exact ⟨k + 1, by omega, by go_num, bel3⟩
    case measure => simp [intOf]; omega
   | true =>
    have sg := hs1 rfl
    clear hs1 hs2
    go_wp2_with (fail)
    refine (show Calls _ _ _ _ _ from copy_any W2 B0 B1 B2 B3 B4 b0 b1 b2 b3 b4 ⟨T, N, S, M, C, dp, lc⟩ hB2.inp sg).mono ?_
    rintro e W3 ⟨D0, D1, D2, D3, D4, d0, d1, d2, d3, d4, rfl, hJ, bel⟩
    have hB3 := hB2.next bel
    clear hB2 bel q0 q1 q2 q3 q4 q5 q6
    unfold valPg
    go_wp2_with (fail)
    refine (show Calls _ _ _ _ _ from refEncode_any W3 D0 D1 D2 D3 D4 d0 d1 d2 d3 d4 ⟨T, N, S, M, C, dp, lc⟩ hJ fx).mono ?_
    rintro e W4 ⟨he, bel⟩
    have hB4 := hB3.next bel
    clear hB3 bel hJ
    obtain ⟨q0, q1, q2, q3, q4, q5, q6⟩ := boxed hB4.box
    dsimp only at q0 q1 q2 q3 q4 q5 q6
    cases hf : formedB ⟨T, N, S, M, C, dp, lc⟩ with
    | true =>
     rw [hf, if_pos rfl] at he
     obtain ⟨v, rfl, hr⟩ := he
     obtain ⟨A5, c5, rfl, k5, r5⟩ := Kd.R_reads hr
     clear hr
     go_wp2_with (fail)
     refine (show Calls _ _ _ _ _ from copy_any W4 B0 B1 B2 B3 B4 b0 b1 b2 b3 b4 ⟨T, N, S, M, C, dp, lc⟩ hB4.inp sg).mono ?_
     rintro e W5 ⟨E0, E1, E2, E3, E4, e0, e1, e2, e3, e4, rfl, hJ, bel⟩
     have hB5 := hB4.next bel
     have r55 := Kd.C_below r5 bel
     clear hB4 bel q0 q1 q2 q3 q4 q5 q6 r5
     unfold valPg
     go_wp2_with (fail)
     refine (show Calls _ _ _ _ _ from encode_any W5 E0 E1 E2 E3 E4 e0 e1 e2 e3 e4 ⟨T, N, S, M, C, dp, lc⟩ hJ fx).mono ?_
     rintro e W6 ⟨he, bel⟩
     have bel6 := (hB5.next bel).below
     have r56 := Kd.C_below r55 bel
     clear hB5 bel hJ r55
     rw [hf, if_pos rfl] at he
     obtain ⟨v, rfl, hr⟩ := he
     obtain ⟨A6, c6, rfl, k6, r6⟩ := Kd.R_reads hr
     have hEb := encP_bytes ⟨T, N, S, M, C, dp, lc⟩
     clear hr hf sg
     generalize encP ⟨T, N, S, M, C, dp, lc⟩ = E at k5 r56 k6 r6 hEb ⊢
     go_wp2_with (fail)
     refine (show Calls _ _ _ _ _ from sameBytes_any W6 A6 A5 c6 c5 E E r6 k6 r56 k5 hEb hEb).mono ?_
     rintro e W7 ⟨⟨r, rfl, hr⟩, bel⟩
     obtain rfl := hr.2 rfl
     have bel7 := bel6.trans (bel.mono (by have := bel6.size; omega))
     clear bel bel6 hr r6 r56
     go_wp2_with (fail)
     go_roundw
     case rel => exact ⟨k + 1, by omega, by go_num, bel7⟩
     case measure => simp [intOf]; omega
    | false =>
     rw [hf, if_neg (by decide)] at he
     subst he
     go_wp2_with (fail)
     refine (show Calls _ _ _ _ _ from copy_any W4 B0 B1 B2 B3 B4 b0 b1 b2 b3 b4 ⟨T, N, S, M, C, dp, lc⟩ hB4.inp sg).mono ?_
     rintro e W5 ⟨E0, E1, E2, E3, E4, e0, e1, e2, e3, e4, rfl, hJ, bel⟩
     have hB5 := hB4.next bel
     clear hB4 bel q0 q1 q2 q3 q4 q5 q6
     unfold valPg
     go_wp2_with (fail)
     refine (show Calls _ _ _ _ _ from encode_any W5 E0 E1 E2 E3 E4 e0 e1 e2 e3 e4 ⟨T, N, S, M, C, dp, lc⟩ hJ fx).mono ?_
     rintro e W6 ⟨he, bel⟩
     have bel6 := (hB5.next bel).below
     clear hB5 bel hJ
     rw [hf, if_neg (by decide)] at he
     subst he
     clear hf sg
     go_wp2_with (fail)
     refine (show Calls _ _ _ _ _ from sameBytes_any W6 none none 0 0 [] [] (C_nil _ W6) (Nat.le_refl _) (C_nil _ W6) (Nat.le_refl _) (fun _ h => (by cases h)) (fun _ h => (by cases h))).mono ?_
     rintro e W7 ⟨⟨r, rfl, hr⟩, bel⟩
     obtain rfl := hr.2 rfl
     have bel7 := bel6.trans (bel.mono (by have := bel6.size; omega))
     clear bel bel6 hr
     go_wp2_with (fail)
     go_roundw
     case rel => exact ⟨k + 1, by omega, by go_num, bel7⟩
     case measure => simp [intOf]; omega
  ·
   have hge : ¬ (k : Int) < (l.length : Int) := by omega
   go_wp2_with (fail)
   go_ret
   exact ⟨rfl, bel⟩
end Go.Proofs.Ytlocnfkkfpfpfaa.D
