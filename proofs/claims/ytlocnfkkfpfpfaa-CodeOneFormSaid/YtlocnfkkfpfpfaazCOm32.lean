/- CodeOneForm: its walk. -/
import Derived.Test.YtlocnfkkfpfpfaazCOm30
import Derived.Test.YtlocnfkkfpfpfaazCOm31
namespace Go.Proofs.Ytlocnfkkfpfpfaa.D
open Go.RowKit Go.Proofs.YtlocnfkkfpfpfaaW.PrintWords Go.Proofs.YtlocnfkkfpfpfaaW.PrintLast Go.Proofs.YtlocnfkkfpfpfaaW.PrintMore Go.Proofs.Ytlocnfkkfpfpfaa.Six
set_option linter.unusedSimpArgs false
set_option linter.unusedVariables false
theorem own_empty (W : World) : (Kd.int .u8).R 5 (W.alloc (.cells #[] 5)) W.heap.size (fun k => W.heap.size ≤ k) (.slice (some ⟨W.heap.size, 0, none⟩) 0 0) [] := by
  have h := World.ownsRow_lit (base := W.heap.size) (e := 5) (size := 1) W #[] 0 (Nat.le_refl _) (by simp [maxLen]) (by simp)
  exact own_ints (xs := []) (by simpa using h) (fun k hk => hk)
theorem C_nil {α : Type} (d : Kd α) (W : World) : d.C W none 0 [] := (Kd.R_reads' (Kd.R_nil d 0 W 0 (fun _ => True))).2.2
def g0 : Pg := ⟨[], [], [], [], [], 0, 0⟩
theorem g0_in (W : World) : InPg W none none none none none 0 0 0 0 0 g0 := ⟨C_nil _ W, C_nil _ W, C_nil _ W, C_nil _ W, C_nil _ W, Nat.le_refl _, Nat.le_refl _, Nat.le_refl _, Nat.le_refl _, Nat.le_refl _⟩
theorem g0_fits : Fits g0 := ⟨Nat.zero_le _, Nat.zero_le _, Nat.zero_le _, Nat.zero_le _, Nat.zero_le _, fun _ h => (by cases h), fun _ h => (by cases h)⟩
set_option maxHeartbeats 4000000 in
set_option maxRecDepth 100000 in
theorem oneForm_any (w : World) (A B : Option Addr) (c d : Nat) (a b : List Int) (ha : Kd.C (Kd.int .u8) w A a.length a) (hc : a.length ≤ c) (hb : Kd.C (Kd.int .u8) w B b.length b) (hd : b.length ≤ d) (ga : Good a) (gb : Good b) (hal : a.length ≤ 140737488351232) (hbl : b.length ≤ 140737488351232) :
 Calls Try.prog 7 #[.slice A a.length c, .slice B b.length d] w fun e w' => e = .returned (.bool true) ∧ Below w.heap.size w w' := by
 go_enter Try.func7, Try.ntmps7
 go_wp2_with (fail)
 refine (fixed_any w).mono ?_
 rintro e W1 ⟨rfl, bel⟩
 have ha1 := Kd.C_below ha bel
 have hb1 := Kd.C_below hb bel
 clear ha hb
 have ha2 := Kd.C_below ha1 (below_alloc (Below.refl W1.heap.size W1) (.cells #[] 5))
 have hb2 := Kd.C_below hb1 (below_alloc (Below.refl W1.heap.size W1) (.cells #[] 5))
 have hlen := hal
 go_wp2_with ((with_reducible refine gate_builtin (b := .append) (xs := #[.tmp 16, .tmp 17]) rfl ?_); at_builtin; refine Kd.R_append_rows (Kd.int .u8) (w0 := W1) W1.heap.size rfl (.tmp 16) (.tmp 17) 34 5 (.int .u8 0) 1 rfl Try.underlying34 info5 rfl (by decide) (by omega) _ [] a A a.length c (fun k => W1.heap.size ≤ k) (fun _ => False) rfl rfl (own_empty W1) ha2 (fun _ _ h => h) (fun _ hk => hk.elim) (fun k hk => by simp at hk; omega) (below_alloc (Below.refl _ _) _) (by simp) (by simp only [List.length_nil]; omega) ?_; intro v3 w3 hr3 hb3 hg3 _)
 obtain ⟨A3, c3, rfl, k3, r3⟩ := Kd.R_reads (show (Kd.int .u8).R 5 w3 W1.heap.size (fun k => W1.heap.size ≤ k) v3 a from hr3)
 have ha3 := Kd.C_below ha1 hb3
 have hb3' := Kd.C_below hb1 hb3
 have bel3 := bel.trans (hb3.mono (by have := bel.size; omega))
 clear ha1 ha2 hb1 hb2 hr3 hg3 hb3 bel
 refine (show Calls _ _ _ _ _ from decode_any w3 A3 c3 a r3 k3 ga).mono ?_
 intro e W4 hd4
 unfold IsDec at hd4
 cases hpa : programF a with
 | error f =>
  obtain ⟨k, q⟩ := f
  obtain ⟨f1, f2, f3, f4⟩ := program_err a k q hpa
  rw [hpa] at hd4
  obtain ⟨F, rfl, hF, hFc, bel⟩ := hd4
  have bel4 := bel3.trans (bel.mono (by have := bel3.size; omega))
  have bel5 := below_alloc (Below.refl W4.heap.size W4) (.cells #[.slice none 0 0, .slice none 0 0, .slice none 0 0, .slice none 0 0, .slice none 0 0, .int .i64 0, .int .i64 0] 32 (0, 0))
  have belw := bel4.trans (bel5.mono (by have := bel4.size; omega))
  have hF5 := (bel5.block _ (blk_lt hFc)).trans hFc
  have hx5 := heap_alloc_new W4 (.cells #[.slice none 0 0, .slice none 0 0, .slice none 0 0, .slice none 0 0, .slice none 0 0, .int .i64 0, .int .i64 0] 32 (0, 0))
  have e0 : (W4.alloc (.cells #[.slice none 0 0, .slice none 0 0, .slice none 0 0, .slice none 0 0, .slice none 0 0, .int .i64 0, .int .i64 0] 32)).cell? ⟨F, 0, none⟩ = some (.int .i64 k) := by simp [World.cell?, hF5]
  have e1 : (W4.alloc (.cells #[.slice none 0 0, .slice none 0 0, .slice none 0 0, .slice none 0 0, .slice none 0 0, .int .i64 0, .int .i64 0] 32)).cell? ⟨F, 1, none⟩ = some (.int .i64 q) := by simp [World.cell?, hF5]
  have hta : ∀ w, (Instr.typeAssert (.iface 53 (.pointer (some ⟨F, 0, none⟩))) 47 53 true).run Try.prog w = .ok (.tuple #[.pointer (some ⟨F, 0, none⟩), .bool true]) w := fun w => by
   simp [Instr.typeAssert, go_sem, run_underlying Try.underlying53]
  obtain ⟨p0, p1, p2, p3, p4, p5, p6⟩ := boxed hx5
  clear ha3 hb3' r3 k3 bel3 bel bel4 bel5 hF5 hx5 hFc
  go_wp2_with (fail)
  refine (show Calls _ _ _ _ _ from same_any _ none none none none none 0 0 0 0 0 g0 none none none none none 0 0 0 0 0 g0 (g0_in _) (g0_in _) g0_fits g0_fits).mono ?_
  rintro e W6 ⟨⟨r, rfl, hr⟩, bel⟩
  obtain rfl := hr.2 rfl
  have belw2 := belw.trans (bel.mono (by have := belw.size; omega))
  clear e0 e1 p0 p1 p2 p3 p4 p5 p6 bel belw hr
  go_wp2_with (fail)
  go_ret
  exact ⟨rfl, belw2⟩
 | ok gq =>
  obtain ⟨g, q⟩ := gq
  obtain ⟨hf, hae⟩ := program_of a ga.byte g q hpa
  have fg := formed_fits g hf
  have HAE := hid_ hae
  clear hae
  rw [hpa] at hd4
  obtain ⟨v, rfl, hp, bel⟩ := hd4
  obtain ⟨D0, D1, D2, D3, D4, d0, d1, d2, d3, d4, rfl, hK⟩ := hp.read
  have ha4 := Kd.C_below ha3 bel
  have hb4 := Kd.C_below hb3' bel
  have bel4 := bel3.trans (bel.mono (by have := bel3.size; omega))
  have bel5 := below_alloc (Below.refl W4.heap.size W4) (.cells #[.slice D0 g.T.length d0, .slice D1 g.N.length d1, .slice D2 g.S.length d2, .slice D3 g.M.length d3, .slice D4 g.C.length d4, .int .i64 g.dep, .int .i64 g.loc] 32 (0, 0))
  have hB := InBox.new bel4 hK
  have ha5 := Kd.C_below ha4 bel5
  have hb5 := Kd.C_below hb4 bel5
  clear hp hK ha4 hb4 ha3 hb3' r3 k3 bel3 bel bel4 bel5
  unfold valPg
  obtain ⟨p0, p1, p2, p3, p4, p5, p6⟩ := boxed hB.box
  go_wp2_with (fail)
  refine (show Calls _ _ _ _ _ from encode_any _ D0 D1 D2 D3 D4 d0 d1 d2 d3 d4 g hB.inp fg).mono ?_
  rintro e W6 ⟨he, bel⟩
  rw [if_pos hf, ← HAE.out] at he
  obtain ⟨v, rfl, hr⟩ := he
  obtain ⟨A6, c6, rfl, k6, r6⟩ := Kd.R_reads hr
  have hB6 := hB.next bel
  have ha6 := Kd.C_below ha5 bel
  have hb6 := Kd.C_below hb5 bel
  clear hB ha5 hb5 bel p0 p1 p2 p3 p4 p5 p6 hr
  go_wp2_with (fail)
  refine (show Calls _ _ _ _ _ from sameBytes_any W6 A6 A c6 c a a r6 k6 ha6 hc ga.byte ga.byte).mono ?_
  rintro e W7 ⟨⟨r, rfl, hr⟩, bel⟩
  obtain rfl := hr.2 rfl
  have hB7 := hB6.next bel
  have ha7 := Kd.C_below ha6 bel
  have hb7 := Kd.C_below hb6 bel
  have hb8 := Kd.C_below hb7 (below_alloc (Below.refl W7.heap.size W7) (.cells #[] 5))
  have hlenb := hbl
  clear hB6 ha6 hb6 bel hr r6 k6
  go_wp2_with ((with_reducible refine gate_builtin (b := .append) (xs := #[.tmp 83, .tmp 84]) rfl ?_); at_builtin; refine Kd.R_append_rows (Kd.int .u8) (w0 := W7) W7.heap.size rfl (.tmp 83) (.tmp 84) 34 5 (.int .u8 0) 1 rfl Try.underlying34 info5 rfl (by decide) (by omega) _ [] b B b.length d (fun k => W7.heap.size ≤ k) (fun _ => False) rfl rfl (own_empty W7) hb8 (fun _ _ h => h) (fun _ hk => hk.elim) (fun k hk => by simp at hk; omega) (below_alloc (Below.refl _ _) _) (by simp) (by simp only [List.length_nil]; omega) ?_; intro v8 w8 hr8 bel8 hg8 _)
  obtain ⟨A8, c8, rfl, k8, r8⟩ := Kd.R_reads (show (Kd.int .u8).R 5 w8 W7.heap.size (fun k => W7.heap.size ≤ k) v8 b from hr8)
  have hB8 := hB7.next bel8
  have ha8 := Kd.C_below ha7 bel8
  have hb9 := Kd.C_below hb7 bel8
  clear ha7 hb7 hb8 hr8 bel8 hg8 hB7
  refine (show Calls _ _ _ _ _ from decode_any w8 A8 c8 b r8 k8 gb).mono ?_
  intro e W9 hd9
  unfold IsDec at hd9
  cases hpb : programF b with
  | error f =>
   obtain ⟨k, q⟩ := f
   rw [hpb] at hd9
   obtain ⟨F, rfl, hF, hFc, bel⟩ := hd9
   have belw := below_alloc (hB8.next bel).below (.cells #[.slice none 0 0, .slice none 0 0, .slice none 0 0, .slice none 0 0, .slice none 0 0, .int .i64 0, .int .i64 0] 32 (0, 0))
   clear hB8 ha8 hb9 bel r8 k8 hFc
   go_wp2_with (fail)
   go_ret
   exact ⟨rfl, belw⟩
  | ok gq =>
   obtain ⟨h, q⟩ := gq
   obtain ⟨hfh, hbe⟩ := program_of b gb.byte h q hpb
   have fh := formed_fits h hfh
   have HBE := hid_ hbe
   clear hbe
   rw [hpb] at hd9
   obtain ⟨v, rfl, hp, bel⟩ := hd9
   obtain ⟨E0, E1, E2, E3, E4, e0, e1, e2, e3, e4, rfl, hK⟩ := hp.read
   have hB9 := hB8.next bel
   have bel9 := below_alloc (Below.refl W9.heap.size W9) (.cells #[.slice E0 h.T.length e0, .slice E1 h.N.length e1, .slice E2 h.S.length e2, .slice E3 h.M.length e3, .slice E4 h.C.length e4, .int .i64 h.dep, .int .i64 h.loc] 32 (0, 0))
   have hB10 := hB9.next bel9
   have hH10 := InBox.new hB9.below hK
   have ha10 := Kd.C_below (Kd.C_below ha8 bel) bel9
   have hb10 := Kd.C_below (Kd.C_below hb9 bel) bel9
   clear hp hK ha8 hb9 hB8 bel r8 k8 hB9 bel9
   unfold valPg
   go_wp2_with (fail)
   refine (show Calls _ _ _ _ _ from sameBytes_any _ A B c d a b ha10 hc hb10 hd ga.byte gb.byte).mono ?_
   rintro e W11 ⟨⟨r, rfl, hr⟩, bel⟩
   have hB11 := hB10.next bel
   have hH11 := hH10.next bel
   clear hB10 hH10 ha10 hb10 bel
   cases r with
   | true =>
    have belw := hB11.below
    clear hB11 hH11 hr
    go_wp2_with (fail)
    go_ret
    exact ⟨rfl, belw⟩
   | false =>
    have hne : g ≠ h := fun he => by
     have := hr.2 (by rw [HAE.out, HBE.out, he])
     cases this
    clear hr
    obtain ⟨p0, p1, p2, p3, p4, p5, p6⟩ := boxed hB11.box
    obtain ⟨q0, q1, q2, q3, q4, q5, q6⟩ := boxed hH11.box
    go_wp2_with (fail)
    refine (show Calls _ _ _ _ _ from same_any W11 D0 D1 D2 D3 D4 d0 d1 d2 d3 d4 g E0 E1 E2 E3 E4 e0 e1 e2 e3 e4 h hH11.inp hB11.inp fg fh).mono ?_
    rintro e W12 ⟨⟨r, rfl, hr⟩, bel⟩
    have belw := (hB11.next bel).below
    cases r with
    | true => exact absurd (hr.1 rfl) hne
    | false =>
     clear hr bel hB11 hH11 p0 p1 p2 p3 p4 p5 p6 q0 q1 q2 q3 q4 q5 q6
     go_wp2_with (fail)
     go_ret
     exact ⟨rfl, belw⟩
end Go.Proofs.Ytlocnfkkfpfpfaa.D
