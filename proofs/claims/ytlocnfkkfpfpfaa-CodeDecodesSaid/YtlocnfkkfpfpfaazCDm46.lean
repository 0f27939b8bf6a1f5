/- CodeDecodes: its walk. -/
import Derived.Test.YtlocnfkkfpfpfaazCDm45
namespace Go.Proofs.Ytlocnfkkfpfpfaa.D
open Go.RowKit Go.Proofs.YtlocnfkkfpfpfaaW.PrintWords Go.Proofs.YtlocnfkkfpfpfaaW.PrintLast Go.Proofs.YtlocnfkkfpfpfaaW.PrintMore Go.Proofs.Ytlocnfkkfpfpfaa.Six
set_option linter.unusedSimpArgs false
set_option linter.unusedVariables false
set_option linter.unusedSectionVars false
set_option maxHeartbeats 4000000 in
set_option maxRecDepth 100000 in
theorem decodes_any (w : World) (A : Option Addr) (c : Nat) (l : List (List Int)) (hC : Kd.C (Kd.slice 5 (Kd.int .u8)) w A l.length l) (hc : l.length ≤ c) (hl : l.length ≤ 140737488351232) (hf : ∀ x ∈ l, Good x ∧ x.length ≤ 140737488351232) :
 Calls Try.prog 5 #[.slice A l.length c] w fun e w' => e = .returned (.bool true) ∧ Below w.heap.size w w' := by
 go_enter Try.func5, Try.ntmps5
 go_wp2_with (fail)
 refine (fixed_any w).mono ?_
 rintro e W1 ⟨rfl, bel⟩
 go_wp2_with (fail)
 go_loopw [14] (fun i wr => ∃ k : Nat, k ≤ l.length ∧ i = .int .i64 k ∧ Below w.heap.size w wr) (fun i _ => l.length - (intOf i).toNat)
 case atStart => exact ⟨0, by omega, rfl, bel⟩
 case round =>
  clear bel
  obtain ⟨k, hk, rfl, bel⟩ := hrel
  by_cases hlt : k < l.length
  ·
   have hC2 := Kd.C_below hC bel
   obtain ⟨ad, B0, b0, rfl, q0, l0, r0⟩ := at_L6 hC2 (k : Int) (by omega) (by omega)
   have hx : rd_L6 l (k : Int) = l[k] := by simp [rd_L6, hlt]
   rw [hx] at q0 l0 r0
   rw [Int.toNat_natCast] at q0
   obtain ⟨gx, lx⟩ := hf _ (List.getElem_mem hlt)
   clear hx hC2
   have hlk : (k : Int) < (l.length : Int) := by omega
   have hk0 : 0 ≤ (k : Int) := by omega
   generalize l[k] = x at q0 l0 r0 gx lx
   have r1 := Kd.C_below r0 (below_alloc (Below.refl wr.heap.size wr) (.cells #[] 5))
   have hsw := bel.size
   go_wp2_with ((with_reducible refine gate_builtin (b := .append) (xs := #[.tmp 19, .tmp 20]) rfl ?_); at_builtin; refine Kd.R_append_rows (Kd.int .u8) (w0 := wr) wr.heap.size rfl (.tmp 19) (.tmp 20) 34 5 (.int .u8 0) 1 rfl Try.underlying34 info5 rfl (by decide) (by omega) _ [] x B0 x.length b0 (fun k => wr.heap.size ≤ k) (fun _ => False) rfl rfl (own_empty wr) r1 (fun _ _ h => h) (fun _ hk => hk.elim) (fun k hk => by simp at hk; omega) (below_alloc (Below.refl _ _) _) (by simp) (by simp only [List.length_nil]; omega) ?_; intro v3 w3 hr3 hb3 hg3 _)
   obtain ⟨A3, c3, rfl, k3, r3⟩ := Kd.R_reads (show (Kd.int .u8).R 5 w3 wr.heap.size (fun k => wr.heap.size ≤ k) v3 x from hr3)
   have r4 := Kd.C_below r0 hb3
   have bel3 := bel.trans (hb3.mono hsw)
   clear r0 r1 hr3 hg3 hb3 bel q0 hsw
   refine (show Calls _ _ _ _ _ from refDecode_any w3 A3 c3 x r3 k3 gx).mono ?_
   rintro e W4 ⟨g, v, kf, bf, rfl, bel, hp, hm⟩
   obtain ⟨D0, D1, D2, D3, D4, d0, d1, d2, d3, d4, rfl, hK⟩ := hp.read
   have fg : Fits g := by
    cases hpx : programF x with
    | error f => rw [hpx] at hm; rw [hm.2.2]; exact g0_fits
    | ok gq =>
     obtain ⟨h, q⟩ := gq
     rw [hpx] at hm
     rw [hm.2]
     exact formed_fits h (program_of x gx.byte h q hpx).1
   have bel4 := bel3.trans (bel.mono bel3.size)
   have r5 := Kd.C_below r4 bel
   have hB := InBox.new bel4 hK
   have r6 := Kd.C_below r5 (below_alloc (Below.refl W4.heap.size W4) (.cells #[.slice D0 g.T.length d0, .slice D1 g.N.length d1, .slice D2 g.S.length d2, .slice D3 g.M.length d3, .slice D4 g.C.length d4, .int .i64 g.dep, .int .i64 g.loc] 32 (0, 0)))
   clear hp hK r3 k3 r4 r5 bel3 bel bel4
   have HM := hid_ hm; clear hm
   unfold valPg
   go_upto_region 7 with (fail)
   generalize (W4.alloc (.cells #[.slice D0 g.T.length d0, .slice D1 g.N.length d1, .slice D2 g.S.length d2, .slice D3 g.M.length d3, .slice D4 g.C.length d4, .int .i64 g.dep, .int .i64 g.loc] 32 (0, 0))) = W5 at hB r6 ⊢
   generalize W4.heap.size = X at hB ⊢
   have r7 := Kd.C_below r6 (below_alloc (Below.refl W5.heap.size W5) (.cells #[] 5))
   go_wp2_with ((with_reducible refine gate_builtin (b := .append) (xs := #[.tmp 27, .tmp 28]) rfl ?_); at_builtin; refine Kd.R_append_rows (Kd.int .u8) (w0 := W5) W5.heap.size rfl (.tmp 27) (.tmp 28) 34 5 (.int .u8 0) 1 rfl Try.underlying34 info5 rfl (by decide) (by omega) _ [] x B0 x.length b0 (fun k => W5.heap.size ≤ k) (fun _ => False) rfl rfl (own_empty W5) r7 (fun _ _ h => h) (fun _ hk => hk.elim) (fun k hk => by simp at hk; omega) (below_alloc (Below.refl _ _) _) (by simp) (by simp only [List.length_nil]; omega) ?_; intro v8 w8 hr8 bel8 hg8 _)
   obtain ⟨A8, c8, rfl, k8, r8⟩ := Kd.R_reads (show (Kd.int .u8).R 5 w8 W5.heap.size (fun k => W5.heap.size ≤ k) v8 x from hr8)
   have hB8 := hB.next bel8
   clear hB r6 r7 hr8 bel8 hg8
   refine (show Calls _ _ _ _ _ from decode_any w8 A8 c8 x r8 k8 gx).mono ?_
   intro e W9 hd
   unfold IsDec at hd
   have hm := HM.out
   cases hpx : programF x with
   | error f =>
    obtain ⟨kk, q⟩ := f
    rw [hpx] at hd hm
    obtain ⟨F, rfl, hF, hFc, bel⟩ := hd
    obtain ⟨rfl, rfl, rfl⟩ := hm
    obtain ⟨f1, f2, f3, f4⟩ := program_err x kf bf hpx
    clear HM hpx
    have hB9 := hB8.next bel
    have bel9 := below_alloc (Below.refl W9.heap.size W9) (.cells #[.slice none 0 0, .slice none 0 0, .slice none 0 0, .slice none 0 0, .slice none 0 0, .int .i64 0, .int .i64 0] 32 (0, 0))
    have hB10 := hB9.next bel9
    have hF10 := (bel9.block _ (blk_lt hFc)).trans hFc
    have hx10 := heap_alloc_new W9 (.cells #[.slice none 0 0, .slice none 0 0, .slice none 0 0, .slice none 0 0, .slice none 0 0, .int .i64 0, .int .i64 0] 32 (0, 0))
    clear hB8 bel r8 k8 hB9 bel9 hFc
    go_upto_region 8 with (fail)
    generalize (W9.alloc (.cells #[.slice none 0 0, .slice none 0 0, .slice none 0 0, .slice none 0 0, .slice none 0 0, .int .i64 0, .int .i64 0] 32 (0, 0))) = W10 at hB10 hF10 hx10 ⊢
    generalize W9.heap.size = Y at hx10 ⊢
    obtain ⟨q0, q1, q2, q3, q4, q5, q6⟩ := boxed hB10.box
    obtain ⟨p0, p1, p2, p3, p4, p5, p6⟩ := boxed hx10
    dsimp only [g0] at q0 q1 q2 q3 q4 q5 q6
    go_wp2_with (fail)
    refine (show Calls _ _ _ _ _ from same_any W10 none none none none none 0 0 0 0 0 g0 D0 D1 D2 D3 D4 d0 d1 d2 d3 d4 g0 hB10.inp (g0_in W10) g0_fits g0_fits).mono ?_
    rintro e W11 ⟨⟨r, rfl, hr⟩, bel⟩
    obtain rfl := hr.2 rfl
    have hF11 := (bel.block _ (blk_lt hF10)).trans hF10
    have belw := (hB10.next bel).below
    clear q0 q1 q2 q3 q4 q5 q6 p0 p1 p2 p3 p4 p5 p6 hB10 bel hr hF10 hx10
    go_wp2_with (fail)
    refine (isFault_some W11 F kf bf kf bf hF11).mono ?_
    rintro e W12 ⟨rfl, bel⟩
    have dk : decide (kf ≠ 0 ∧ kf = kf ∧ bf = bf) = true := decide_eq_true ⟨by omega, rfl, rfl⟩
    rw [dk]
    have belw2 := belw.trans (bel.mono belw.size)
    clear bel belw dk hF11
    go_wp2_with (fail)
    go_roundw
    case rel => exact ⟨k + 1, by omega, by go_num, belw2⟩
    case measure => simp [intOf]; omega
   | ok gq =>
    obtain ⟨h, q⟩ := gq
    rw [hpx] at hd hm
    obtain ⟨v, rfl, hp, bel⟩ := hd
    obtain ⟨E0, E1, E2, E3, E4, e0, e1, e2, e3, e4, rfl, hK⟩ := hp.read
    obtain ⟨rfl, rfl⟩ := hm
    clear HM hpx
    have hB9 := hB8.next bel
    have bel9 := below_alloc (Below.refl W9.heap.size W9) (.cells #[.slice E0 g.T.length e0, .slice E1 g.N.length e1, .slice E2 g.S.length e2, .slice E3 g.M.length e3, .slice E4 g.C.length e4, .int .i64 g.dep, .int .i64 g.loc] 32 (0, 0))
    have hB10 := hB9.next bel9
    have hH10 := InBox.new hB9.below hK
    clear hB8 bel r8 k8 hB9 bel9 hp hK
    unfold valPg
    go_upto_region 8 with (fail)
    generalize (W9.alloc (.cells #[.slice E0 g.T.length e0, .slice E1 g.N.length e1, .slice E2 g.S.length e2, .slice E3 g.M.length e3, .slice E4 g.C.length e4, .int .i64 g.dep, .int .i64 g.loc] 32 (0, 0))) = W10 at hB10 hH10 ⊢
    generalize W9.heap.size = Y at hH10 ⊢
    obtain ⟨q0, q1, q2, q3, q4, q5, q6⟩ := boxed hB10.box
    obtain ⟨p0, p1, p2, p3, p4, p5, p6⟩ := boxed hH10.box
    go_wp2_with (fail)
    refine (show Calls _ _ _ _ _ from same_any W10 E0 E1 E2 E3 E4 e0 e1 e2 e3 e4 g D0 D1 D2 D3 D4 d0 d1 d2 d3 d4 g hB10.inp hH10.inp fg fg).mono ?_
    rintro e W11 ⟨⟨r, rfl, hr⟩, bel⟩
    obtain rfl := hr.2 rfl
    have belw := (hB10.next bel).below
    clear q0 q1 q2 q3 q4 q5 q6 p0 p1 p2 p3 p4 p5 p6 hB10 hH10 bel hr
    go_wp2_with (fail)
    refine (isFault_none W11 0 bf).mono ?_
    rintro e W12 ⟨rfl, bel⟩
    rw [decide_eq_true (rfl : (0 : Int) = 0)]
    have belw2 := belw.trans (bel.mono belw.size)
    clear bel belw
    go_wp2_with (fail)
    go_roundw
    case rel => exact ⟨k + 1, by omega, by go_num, belw2⟩
    case measure => simp [intOf]; omega
  ·
   have hge : ¬ (k : Int) < (l.length : Int) := by omega
   go_wp2_with (fail)
   go_ret
   exact ⟨rfl, bel⟩
end Go.Proofs.Ytlocnfkkfpfpfaa.D
