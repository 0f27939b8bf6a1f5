/- CodeCut: its walk. -/
import Derived.Test.YtlocnfkkfpfpfaazCCm32
import Derived.Deep.DeepAppendWide
namespace Go.Proofs.Ytlocnfkkfpfpfaa.D
open Go.RowKit Go.Proofs.YtlocnfkkfpfpfaaW.PrintWords Go.Proofs.YtlocnfkkfpfpfaaW.PrintLast Go.Proofs.YtlocnfkkfpfpfaaW.PrintMore Go.Proofs.Ytlocnfkkfpfpfaa.Six
set_option linter.unusedSimpArgs false
set_option linter.unusedVariables false
theorem encP_four (g : Pg) : 4 ≤ (encP g).length := by
  rw [encP_eq]
  simp only [List.length_append, List.length_cons, List.length_nil]
  omega
theorem cut_mod (ct : Int) (n : Nat) (h0 : 0 < n) (h1 : n ≤ 700000000) : ∃ m : Nat, (wrap64 (ct.tmod (n : Int) + (n : Int))).tmod (n : Int) = (m : Int) ∧ m < n := by
 have hn : (0 : Int) < (n : Int) := by omega
 have a0 : ct.tmod (n : Int) < n := Int.tmod_lt_of_pos ct hn
 have a1 : -(n : Int) < ct.tmod (n : Int) := by
  rcases Int.le_total 0 ct with hc | hc
  ·
   have := Int.tmod_nonneg (n : Int) hc; omega
  ·
   have e : ct.tmod (n : Int) = -((-ct).tmod (n : Int)) := by rw [Int.neg_tmod]; omega
   have b0 := Int.tmod_lt_of_pos (-ct) hn
   rw [e]
   omega
 rw [wrap_ _ (by omega) (by omega)]
 have b0 := Int.tmod_nonneg (n : Int) (show 0 ≤ ct.tmod (n : Int) + n by omega)
 have b1 := Int.tmod_lt_of_pos (ct.tmod (n : Int) + n) hn
 exact ⟨((ct.tmod (n : Int) + n).tmod (n : Int)).toNat, by omega, by omega⟩
theorem cells_of {W : World} {B : Option Addr} {b : List Int} (h : Kd.C (Kd.int .u8) W B b.length b) (hp : 0 < b.length) : ∃ ad, B = some ad ∧ ∀ j u, (b.map (Value.int .u8))[j]? = some u → W.cell? (ad.add j) = some u := by
  obtain ⟨ad, e, _⟩ := Kd.at_int h 0 (by omega) (by omega)
  refine ⟨ad, e, fun j u hj => ?_⟩
  rw [List.getElem?_map] at hj
  obtain ⟨x, hx, rfl⟩ := Option.map_eq_some_iff.1 hj
  obtain ⟨hjl, hx2⟩ := List.getElem?_eq_some_iff.1 hx
  obtain ⟨ad2, e2, h2⟩ := Kd.at_int h (j : Int) (by omega) (by omega)
  rw [e] at e2
  obtain rfl := Option.some.inj e2
  rw [show rd b (j : Int) = x by simp [rd, hjl, hx2]] at h2
  simpa using h2
theorem cells_at {W : World} {ad : Addr} {b : List Int} (h : Kd.C (Kd.int .u8) W (some ad) b.length b) (hp : 0 < b.length) : ∀ j u, (b.map (Value.int .u8))[j]? = some u → W.cell? (ad.add j) = some u := by
  obtain ⟨ad2, e, hc⟩ := cells_of h hp
  obtain rfl := Option.some.inj e
  exact hc
theorem ints_one (b : List Int) : ∀ u ∈ b.map (Value.int .u8), u.oneCell' = true := by
  intro u hu
  obtain ⟨x, _, rfl⟩ := List.mem_map.1 hu
  rfl
set_option maxHeartbeats 4000000 in
set_option maxRecDepth 100000 in
theorem cut_any (w : World) (A0 A1 A2 A3 A4 : Option Addr) (c0 c1 c2 c3 c4 : Nat) (g : Pg) (h : InPg w A0 A1 A2 A3 A4 c0 c1 c2 c3 c4 g) (f : Fits g) (ct : Int) (B : Option Addr) (d : Nat) (b : List Int) (hb : Kd.C (Kd.int .u8) w B b.length b) (hd : b.length ≤ d) (gb : Bytes b) (hbl : b.length ≤ 140737488351232) :
 Calls Try.prog 8 #[valPg A0 A1 A2 A3 A4 c0 c1 c2 c3 c4 g, .int .i64 ct, .slice B b.length d] w fun e w' => e = .returned (.bool true) ∧ Below w.heap.size w w' := by
 unfold valPg
 go_enter Try.func8, Try.ntmps8
 go_wp2_with (fail)
 have hB := InBox.new (Below.refl w.heap.size w) h
 have hb0 := Kd.C_below hb hB.below
 clear h hb
 generalize (w.alloc (.cells #[.slice A0 g.T.length c0, .slice A1 g.N.length c1, .slice A2 g.S.length c2, .slice A3 g.M.length c3, .slice A4 g.C.length c4, .int .i64 g.dep, .int .i64 g.loc] 32 (0, 0))) = W0 at hB hb0 ⊢
 refine (fixed_any W0).mono ?_
 rintro e W1 ⟨rfl, bel⟩
 have hB1 := hB.next bel
 have hb1 := Kd.C_below hb0 bel
 clear hB bel hb0
 obtain ⟨q0, q1, q2, q3, q4, q5, q6⟩ := boxed hB1.box
 go_wp2_with (fail)
 refine (show Calls _ _ _ _ _ from small_any W1 A0 A1 A2 A3 A4 c0 c1 c2 c3 c4 g hB1.inp f).mono ?_
 rintro e W2 ⟨⟨r, rfl, hs⟩, bel⟩
 have hB2 := hB1.next bel
 have hb2 := Kd.C_below hb1 bel
 clear hB1 bel q0 q1 q2 q3 q4 q5 q6 hb1
 cases r with
 | false =>
  have bel := hB2.below
  clear hB2 hs hb2
  go_wp2_with (fail)
  go_ret
  exact ⟨rfl, bel⟩
 | true =>
  have sg := hs rfl
  clear hs
  obtain ⟨q0, q1, q2, q3, q4, q5, q6⟩ := boxed hB2.box
  go_wp2_with (fail)
  refine (show Calls _ _ _ _ _ from copy_any W2 A0 A1 A2 A3 A4 c0 c1 c2 c3 c4 g hB2.inp sg).mono ?_
  rintro e W3 ⟨B0, B1, B2, B3, B4, e0, e1, e2, e3, e4, rfl, hJ, bel⟩
  have hB3 := hB2.next bel
  have hb3 := Kd.C_below hb2 bel
  clear hB2 bel q0 q1 q2 q3 q4 q5 q6 hb2
  unfold valPg
  go_wp2_with (fail)
  refine (show Calls _ _ _ _ _ from encode_any W3 B0 B1 B2 B3 B4 e0 e1 e2 e3 e4 g hJ f).mono ?_
  rintro e W4 ⟨he, bel⟩
  have bel4 := (hB3.next bel).below
  have hb4 := Kd.C_below hb3 bel
  clear hB3 bel hJ hb3
  by_cases hf : formedB g = true
  ·
   rw [if_pos hf] at he
   obtain ⟨v, rfl, hr⟩ := he
   obtain ⟨A6, c6, rfl, k6, r6⟩ := Kd.R_reads hr
   have hE4 := encP_four g
   have hEl := encP_len g hf
   have hEb := encP_bytes g
   have HCut := hid_ (fun c hc => program_cut g hf c hc)
   have HRest := hid_ (fun rest hr => program_rest g hf rest hr)
   clear hf sg f
   generalize encP g = E at k6 r6 hE4 hEl hEb HCut HRest hr ⊢
   obtain ⟨G, cG, he, _, _, _⟩ := Kd.R_form hr (by omega)
   simp only [Value.slice.injEq, true_and] at he
   obtain ⟨rfl, rfl⟩ := he
   clear hr
   have hn0 : (E.length : Int) ≠ 0 := by omega
   obtain ⟨m, hm, hmE⟩ := cut_mod ct E.length (by omega) hEl
   have rt := Kd.C_take r6 (show m ≤ E.length by omega)
   have elt : (E.take m).length = m := by rw [List.length_take]; omega
   have rt4 := Kd.C_below rt (below_alloc (Below.refl W4.heap.size W4) (.cells #[] 5))
   rw [elt] at rt4
   go_wp2_with ((with_reducible refine gate_builtin (b := .append) (xs := #[.tmp 40, .tmp 43]) rfl ?_); at_builtin; refine Kd.R_append_rows (Kd.int .u8) (w0 := W4) W4.heap.size rfl (.tmp 40) (.tmp 43) 34 5 (.int .u8 0) 1 rfl Try.underlying34 info5 rfl (by decide) (by omega) _ [] (E.take m) (some ⟨G, 0, none⟩) m c6 (fun k => W4.heap.size ≤ k) (fun _ => False) rfl rfl (own_empty W4) rt4 (fun _ _ h => h) (fun _ hk => hk.elim) (fun k hk => by simp at hk; omega) (below_alloc (Below.refl _ _) _) (by simp) (by simp only [List.length_nil]; omega) ?_; intro v5 w5 hr5 bel5 hg5 _)
   obtain ⟨A5, c5, rfl, k5, r5⟩ := Kd.R_reads (show (Kd.int .u8).R 5 w5 W4.heap.size (fun k => W4.heap.size ≤ k) v5 (E.take m) from hr5)
   have r65 := Kd.C_below r6 bel5
   have hb5 := Kd.C_below hb4 bel5
   have belw5 := bel4.trans (bel5.mono (by have := bel4.size; omega))
   clear r6 hb4 bel4 bel5 hg5 hr5 rt rt4 hm
   have gt : Good (E.take m) := ⟨fun x hx => hEb x (List.mem_of_mem_take hx), by rw [elt]; omega⟩
   refine (show Calls _ _ _ _ _ from decode_any w5 A5 c5 (E.take m) r5 k5 gt).mono ?_
   intro e W6 hd6
   unfold IsDec at hd6
   rw [HCut.out m hmE] at hd6
   obtain ⟨F, rfl, hF, hFc, bel⟩ := hd6
   have bela := below_alloc (Below.refl W6.heap.size W6) (.cells #[.slice none 0 0, .slice none 0 0, .slice none 0 0, .slice none 0 0, .slice none 0 0, .int .i64 0, .int .i64 0] 32 (0, 0))
   have hx6 := heap_alloc_new W6 (.cells #[.slice none 0 0, .slice none 0 0, .slice none 0 0, .slice none 0 0, .slice none 0 0, .int .i64 0, .int .i64 0] 32 (0, 0))
   have hF6 := (bela.block _ (blk_lt hFc)).trans hFc
   have r66 := Kd.C_below (Kd.C_below r65 bel) bela
   have hb6 := Kd.C_below (Kd.C_below hb5 bel) bela
   have belw6 := below_alloc (belw5.trans (bel.mono (by have := belw5.size; omega))) (.cells #[.slice none 0 0, .slice none 0 0, .slice none 0 0, .slice none 0 0, .slice none 0 0, .int .i64 0, .int .i64 0] 32 (0, 0))
   have hXw : w.heap.size ≤ W6.heap.size := by have := belw5.size; have := bel.size; omega
   clear r5 k5 gt r65 hb5 belw5 bel bela hFc hF
   go_wp2_with (fail)
   generalize W6.heap.size = X at hx6 hXw ⊢
   generalize (W6.alloc (.cells #[.slice none 0 0, .slice none 0 0, .slice none 0 0, .slice none 0 0, .slice none 0 0, .int .i64 0, .int .i64 0] 32 (0, 0))) = W7 at hx6 hF6 r66 hb6 belw6 ⊢
   refine (isFault_some W7 F 201 m 201 m hF6).mono ?_
   rintro e W8 ⟨rfl, bel⟩
   have hx8 := (bel.block _ (blk_lt hx6)).trans hx6
   have r68 := Kd.C_below r66 bel
   have hb8 := Kd.C_below hb6 bel
   have belw8 := belw6.trans (bel.mono (by have := belw6.size; omega))
   clear hx6 hF6 r66 hb6 belw6 bel
   rw [show (decide ((201 : Int) ≠ 0 ∧ (201 : Int) = 201 ∧ (m : Int) = (m : Int))) = true by simp]
   obtain ⟨p0, p1, p2, p3, p4, p5, p6⟩ := boxed hx8
   go_wp2_with (fail)
   refine (show Calls _ _ _ _ _ from same_any _ none none none none none 0 0 0 0 0 g0 none none none none none 0 0 0 0 0 g0 (g0_in _) (g0_in _) g0_fits g0_fits).mono ?_
   rintro e W9 ⟨⟨r, rfl, hr⟩, bel⟩
   obtain rfl := hr.2 rfl
   have hx9 := (bel.block _ (blk_lt hx8)).trans hx8
   have r69 := Kd.C_below r68 bel
   have hb9 := Kd.C_below hb8 bel
   have belw9 := belw8.trans (bel.mono (by have := belw8.size; omega))
   clear hr bel hx8 r68 hb8 belw8 p0 p1 p2 p3 p4 p5 p6
   by_cases hb0 : b.length = 0
   ·
    have hb1 : (b.length : Int) = 0 := by omega
    go_wp2_with (fail)
    go_ret
    exact ⟨rfl, belw9⟩
   ·
    have hb1 : ((b.length : Int) == 0) = false := by simp [hb0]
    obtain ⟨ad, rfl, _⟩ := cells_of hb9 (by omega)
    obtain ⟨i5, hi5, hzz⟩ := Option.map_eq_some_iff.1 info5
    simp only [Prod.mk.injEq] at hzz
    obtain ⟨hz0, hz1, hz2⟩ := hzz
    have r6a := Kd.C_below r69 (below_alloc (Below.refl W9.heap.size W9) (.cells #[] 5))
    have hlen : E.length ≤ 140737488351232 := by omega
    go_wp2_with (first
     | ((with_reducible refine gate_builtin (b := .append) (xs := #[.tmp 62, .tmp 63]) rfl ?_); at_builtin; refine Kd.R_append_rows (Kd.int .u8) (w0 := W9) W9.heap.size rfl (.tmp 62) (.tmp 63) 34 5 (.int .u8 0) 1 rfl Try.underlying34 info5 rfl (by decide) (by omega) _ [] E (some ⟨G, 0, none⟩) E.length c6 (fun k => W9.heap.size ≤ k) (fun _ => False) rfl rfl (own_empty W9) r6a (fun _ _ h => h) (fun _ hk => hk.elim) (fun k hk => by simp at hk; omega) (below_alloc (Below.refl _ _) _) (by simp) (by simp only [List.length_nil]; omega) ?_; intro v10 w10 hr10 bel10 hg10 _; have ho10 : w10.ownsRow W9.heap.size 5 1 v10 E.length (E.map (Value.int .u8)) := Kd.own_of_R hr10; have hc10 : ∀ j u, (b.map (Value.int .u8))[j]? = some u → w10.cell? (ad.add j) = some u := cells_at (Kd.C_below hb9 bel10) (by omega); have hs10 : W9.heap.size ≤ w10.heap.size := bel10.size)
     | ((with_reducible refine gate_builtin (b := .append) (xs := #[.tmp 64, .tmp 65]) rfl ?_); at_builtin; refine wpList_append_own_wide _ rfl (.tmp 64) (.tmp 65) 34 rfl W9.heap.size 5 i5 (.int .u8 0) 1 1 Try.underlying34 hi5 hz0 hz1 hz2 rfl (by decide) v10 E.length (E.map (Value.int .u8)) rfl ho10 ad b.length d (b.map (Value.int .u8)) rfl (by simp) hc10 (ints_one b) (by simp only [maxLen]; omega) (by omega) hs10 ?_; intro v11 w11 ho11 hg11 _))
    have hr11 : (Kd.int .u8).R 5 w11 W9.heap.size (fun k => W9.heap.size ≤ k) v11 (E ++ b) := own_ints (by simpa using ho11) (fun k hk => hk)
    have bel11 : Below W9.heap.size W9 w11 := bel10.grown hg11 hs10 (fun k hk => Kd.R_base hr10 k hk)
    obtain ⟨A11, c11, rfl, k11, r11⟩ := Kd.R_reads hr11
    have hx11 := (bel11.block _ (blk_lt hx9)).trans hx9
    have belw11 := belw9.trans (bel11.mono (by have := belw9.size; omega))
    clear r69 hb9 hx9 belw9 r6a hr10 bel10 hg10 ho10 hc10 hs10 ho11 hg11 hr11 bel11
    have gE : Good (E ++ b) := ⟨bytes_app hEb gb, by rw [List.length_append]; omega⟩
    refine (show Calls _ _ _ _ _ from decode_any w11 A11 c11 (E ++ b) r11 k11 gE).mono ?_
    intro e W12 hd12
    unfold IsDec at hd12
    rw [HRest.out b (fun h => hb0 (by rw [h]; rfl))] at hd12
    obtain ⟨F2, rfl, hF2, hFc2, bel⟩ := hd12
    have hx12 := (bel.block _ (blk_lt hx11)).trans hx11
    have hXF : F2 ≠ X := by have := blk_lt hx11; omega
    have belw12 := belw11.trans (bel.mono (by have := belw11.size; omega))
    clear r11 k11 gE hx11 belw11 bel
    have z0 : ∀ i, W12.frozen? ⟨X, i, none⟩ = false := fun i => by simp [World.frozen?, hx12]
    obtain ⟨p0, p1, p2, p3, p4, p5, p6⟩ := boxed hx12
    have hx13 := setZ_heap W12 X (.slice none 0 0) (.slice none 0 0) (.slice none 0 0) (.slice none 0 0) (.slice none 0 0) (.int .i64 0) (.int .i64 0) ⟨_, _, _, _, _, _, _, hx12⟩
    have hF13 := (setZ_other W12 X (.slice none 0 0) (.slice none 0 0) (.slice none 0 0) (.slice none 0 0) (.slice none 0 0) (.int .i64 0) (.int .i64 0) F2 hXF).trans hFc2
    have belw13 : Below w.heap.size w (setZ W12 X (.slice none 0 0) (.slice none 0 0) (.slice none 0 0) (.slice none 0 0) (.slice none 0 0) (.int .i64 0) (.int .i64 0)) := by
     unfold setZ
     exact ((((((belw12.setCell (by simpa using hXw) _).setCell (by simpa using hXw) _).setCell (by simpa using hXw) _).setCell (by simpa using hXw) _).setCell (by simpa using hXw) _).setCell (by simpa using hXw) _).setCell (by simpa using hXw) _
    go_wp2_with (fail)
    clear z0 p0 p1 p2 p3 p4 p5 p6 hx12 hFc2 belw12
    change Calls Try.prog 19 _ (setZ W12 X (.slice none 0 0) (.slice none 0 0) (.slice none 0 0) (.slice none 0 0) (.slice none 0 0) (.int .i64 0) (.int .i64 0)) _
    generalize (setZ W12 X (.slice none 0 0) (.slice none 0 0) (.slice none 0 0) (.slice none 0 0) (.slice none 0 0) (.int .i64 0) (.int .i64 0)) = W13 at hx13 hF13 belw13 ⊢
    refine (isFault_some W13 F2 206 E.length 206 E.length hF13).mono ?_
    rintro e W14 ⟨rfl, bel⟩
    have hx14 := (bel.block _ (blk_lt hx13)).trans hx13
    have belw14 := belw13.trans (bel.mono (by have := belw13.size; omega))
    clear hx13 hF13 belw13 bel
    rw [show (decide ((206 : Int) ≠ 0 ∧ (206 : Int) = 206 ∧ (E.length : Int) = (E.length : Int))) = true by simp]
    obtain ⟨p0, p1, p2, p3, p4, p5, p6⟩ := boxed hx14
    go_wp2_with (fail)
    refine (show Calls _ _ _ _ _ from same_any _ none none none none none 0 0 0 0 0 g0 none none none none none 0 0 0 0 0 g0 (g0_in _) (g0_in _) g0_fits g0_fits).mono ?_
    rintro e W15 ⟨⟨r, rfl, hr⟩, bel⟩
    obtain rfl := hr.2 rfl
    have belw15 := belw14.trans (bel.mono (by have := belw14.size; omega))
    clear p0 p1 p2 p3 p4 p5 p6 hx14 belw14 bel hr
    go_wp2_with (fail)
    go_ret
    exact ⟨rfl, belw15⟩
  ·
   rw [if_neg hf] at he
   subst he
   clear hb4
   go_wp2_with (fail)
   go_ret
   exact ⟨rfl, bel4⟩
end Go.Proofs.Ytlocnfkkfpfpfaa.D
