/- Encode: its walk. -/
import Derived.Test.YtlocnfkkfpfpfaazCDm13
import Derived.Test.YtlocnfkkfpfpfaazCDm5
import Derived.Lib.SlBytesConst
import Derived.ArgAppend
namespace Go.Proofs.Ytlocnfkkfpfpfaa.D
open Go.RowKit Go.Proofs.YtlocnfkkfpfpfaaW.PrintWords Go.Proofs.YtlocnfkkfpfpfaaW.PrintLast Go.Proofs.YtlocnfkkfpfpfaaW.PrintMore Go.Proofs.Ytlocnfkkfpfpfaa.Six
set_option linter.unusedSimpArgs false
set_option linter.unusedVariables false
theorem heap74 : Kd.Heap k74 := Kd.heap_iso _ (Kd.heap_pair (Kd.heap_int _) (Kd.heap_pair (Kd.heap_int _) (Kd.heap_pair (Kd.heap_int _) (Kd.heap_int _))))
theorem own_ints {W : World} {base : Nat} {ok : Nat → Prop} {v : Value} {xs : List Int} (h : W.ownsRow base 5 1 v xs.length (xs.map (Value.int .u8))) (hok : ∀ k, base ≤ k → ok k) : (Kd.int .u8).R 5 W base ok v xs :=
  ⟨fun k hk => hok k (own_base h k hk), xs.map (Value.int .u8), h, Kd.reps_scalar (enc := Value.int .u8) xs⟩
theorem new1 (W : World) (x : Value) : ∀ (j : Nat) u, [x][j]? = some u → (W.alloc (.cells #[x] 5)).cell? ((⟨W.heap.size, 0, none⟩ : Addr).add j) = some u := by
 intro j u hj
 rw [Addr.add_lit]
 rcases j with _ | j
 ·
  obtain rfl := Option.some.inj hj
  have hh := heap_alloc_new W (.cells #[x] 5)
  simp only [World.cell?, Nat.add_zero, hh]
  rfl
 ·
  simp at hj
set_option maxHeartbeats 1000000 in
set_option maxRecDepth 100000 in
theorem putCount_first (W : World) (m : Nat) (n : Int) (h0 : 0 ≤ n) (h1 : n ≤ 128) (hm : W.heap[m]? = some (.cells #[.int .u8 66, .int .u8 82, .int .u8 84, .int .u8 1] 5 (4, 5))) :
 Calls Try.prog 24 #[.slice (some ⟨m, 0, none⟩) 4 4, .int .u64 n] W fun e w' => ∃ v, e = .returned v ∧ (Kd.int .u8).R 5 w' W.heap.size (fun k => W.heap.size ≤ k) v ([66, 82, 84, 1] ++ encCount n) ∧ Below W.heap.size W w' := by
 obtain ⟨i5, hi5, hzz⟩ := Option.map_eq_some_iff.1 info5
 simp only [Prod.mk.injEq] at hzz
 obtain ⟨hz0, hz1, hz2⟩ := hzz
 have hml := blk_lt hm
 have hcells : ∀ W2 : World, W2.heap[m]? = some (.cells #[.int .u8 66, .int .u8 82, .int .u8 84, .int .u8 1] 5 (4, 5)) → ∀ b, some (⟨m, 0, none⟩ : Addr) = some b → ∀ (j : Nat) u, [Value.int .u8 66, .int .u8 82, .int .u8 84, .int .u8 1][j]? = some u → W2.cell? (b.add j) = some u := by
  intro W2 h2 b hb j u hj
  obtain rfl := Option.some.inj hb
  rw [Addr.add_lit]
  rcases j with _ | _ | _ | _ | j
  ·
   obtain rfl := Option.some.inj hj; simp [World.cell?, h2]
  ·
   obtain rfl := Option.some.inj hj; simp [World.cell?, h2]
  ·
   obtain rfl := Option.some.inj hj; simp [World.cell?, h2]
  ·
   obtain rfl := Option.some.inj hj; simp [World.cell?, h2]
  ·
   simp at hj
 by_cases hn : n < 128
 ·
  have hn2 : n % 256 = n := by omega
  go_enter Try.func24, Try.ntmps24
  go_wp2_with (fail)
  refine wp_loop_rounds 1 ?_
  rw [rounds_succ]
  go_wp2_with ((with_reducible refine gate_builtin (b := .append) (xs := #[.tmp 15, .tmp 18]) rfl ?_); at_builtin; refine wpList_append_grows _ rfl (.tmp 15) (.tmp 18) 34 rfl 5 i5 (.int .u8 0) 1 1 Try.underlying34 hi5 hz0 hz1 hz2 rfl (by decide) (some ⟨m, 0, none⟩) 4 4 [.int .u8 66, .int .u8 82, .int .u8 84, .int .u8 1] rfl (fun h => by cases h) rfl (hcells _ ((heap_alloc_old _ _ hml).trans hm)) ⟨W.heap.size, 0, none⟩ 1 1 [.int .u8 n] rfl rfl (new1 W _) (fun u hu => by (obtain rfl := List.mem_singleton.1 hu; rfl)) (by decide) (by decide) (by decide) ?_; intro v2 w2 ho2 hg2)
  have hr := own_ints (xs := [66, 82, 84, 1, n]) (ok := fun k => W.heap.size ≤ k) ho2 (fun k hk => by simp at hk; omega)
  have hc : encCount n = [n] := by
   unfold encCount cntF
   rw [if_neg (by omega), hn2]
  go_ret
  exact ⟨_, rfl, by rw [hc]; exact Kd.R_lower hr (by simp), (below_alloc (Below.refl _ _) _).grown hg2 (by simp) (fun k hk => by cases hk)⟩
 ·
  obtain rfl : n = 128 := by omega
  go_enter Try.func24, Try.ntmps24
  go_wp2_with (fail)
  refine wp_loop_rounds 2 ?_
  rw [rounds_succ]
  go_wp2_with ((with_reducible refine gate_builtin (b := .append) (xs := #[.tmp 7, .tmp 11]) rfl ?_); at_builtin; refine wpList_append_grows _ rfl (.tmp 7) (.tmp 11) 34 rfl 5 i5 (.int .u8 0) 1 1 Try.underlying34 hi5 hz0 hz1 hz2 rfl (by decide) (some ⟨m, 0, none⟩) 4 4 [.int .u8 66, .int .u8 82, .int .u8 84, .int .u8 1] rfl (fun h => by cases h) rfl (hcells _ ((heap_alloc_old _ _ hml).trans hm)) ⟨W.heap.size, 0, none⟩ 1 1 [.int .u8 128] rfl rfl (new1 W _) (fun u hu => by (obtain rfl := List.mem_singleton.1 hu; rfl)) (by decide) (by decide) (by decide) ?_; intro v2 w2 ho2 hg2)
  rw [rounds_succ]
  have hr := own_ints (xs := [66, 82, 84, 1, 128]) (ok := fun k => W.heap.size ≤ k) ho2 (fun k hk => by simp at hk; omega)
  obtain ⟨A2, c2, rfl⟩ := Kd.R_slice hr
  have hsz := hg2.size
  simp only [World.size_alloc] at hsz
  go_wp2_with ((with_reducible refine gate_builtin (b := .append) (xs := #[.tmp 15, .tmp 18]) rfl ?_); at_builtin; refine Kd.R_append (Kd.int .u8) (w0 := w2) W.heap.size rfl (.tmp 15) (.tmp 18) 34 5 (.int .u8 0) 1 rfl Try.underlying34 info5 rfl (by decide) (by omega) _ [66, 82, 84, 1, 128] 1 [.int .u8 1] (fun k => W.heap.size ≤ k) (fun _ => False) rfl rfl rfl (fun _ hk => hk.elim) (fun k hk => by omega) (Kd.R_lower hr (by simp)) (Below.refl _ _) (by omega) (by decide) ?_; intro v3 w3 hr3 hb3 hg3 _)
  go_ret
  have hc : encCount 128 = [128, 1] := by decide
  refine ⟨_, rfl, by rw [hc]; exact hr3, ?_⟩
  refine Below.grown ((below_alloc (Below.refl _ _) _).grown hg2 (by simp) (fun k hk => by cases hk)) hg3 (by omega) (fun k hk => ?_)
  exact Kd.R_base (Kd.R_lower hr (by simp : W.heap.size ≤ _)) k hk
def IsEnc (w : World) (g : Pg) (e : Ending) (w' : World) : Prop :=
  (if formedB g = true then ∃ v, e = .returned (.tuple #[v, .int .i64 0]) ∧ (Kd.int .u8).R 5 w' w.heap.size (fun _ => True) v (encP g) else e = .returned (.tuple #[.slice none 0 0, .int .i64 207])) ∧ Below w.heap.size w w'
structure StE (w W : World) (A0 A1 A2 A3 A4 : Option Addr) (c0 c1 c2 c3 c4 : Nat) (g : Pg) (v : Value) (l : List Int) : Prop where
  below : Below w.heap.size w W
  box : W.heap[w.heap.size]? = some (.cells #[.slice A0 g.T.length c0, .slice A1 g.N.length c1, .slice A2 g.S.length c2, .slice A3 g.M.length c3, .slice A4 g.C.length c4, .int .i64 g.dep, .int .i64 g.loc] 32 (0, 0))
  row : (Kd.int .u8).R 5 W w.heap.size (fun k => w.heap.size < k) v l
section
variable {w W W2 : World} {A0 A1 A2 A3 A4 : Option Addr} {c0 c1 c2 c3 c4 : Nat} {g : Pg} {v v2 : Value} {l l2 : List Int}
theorem StE.step (h : StE w W A0 A1 A2 A3 A4 c0 c1 c2 c3 c4 g v l) (hr : (Kd.int .u8).R 5 W2 w.heap.size (fun k => w.heap.size < k ∨ W.heap.size ≤ k) v2 l2) (hb : Below w.heap.size w W2) (hk : Kept W W2 (fun k => w.heap.size < k)) : StE w W2 A0 A1 A2 A3 A4 c0 c1 c2 c3 c4 g v2 l2 :=
  ⟨hb, blk_kept h.box hk (by omega), Kd.R_mono hr (fun k hk2 => hk2.elim id (fun h2 => by have := blk_lt h.box; omega))⟩
theorem StE.came {α : Type} {d : Kd α} (hd : Kd.Heap d) {A : Option Addr} {n : Nat} {xs : List α} (hC : d.C w A n xs) (h : StE w W A0 A1 A2 A3 A4 c0 c1 c2 c3 c4 g v l) : ∀ W', Kept W W' (fun k => w.heap.size < k) → d.C W' A n xs :=
  Kd.C_kept_came hd hC h.below (fun k hk => Nat.le_of_lt hk)
end
theorem risesB_all {α : Type} (cmp : α → α → Int) (ok : α → Bool) : ∀ (p : Option α) (l : List α), risesB cmp ok p l = true → ∀ x ∈ l, ok x = true
  | _, [], _, x, hx => by cases hx
  | none, y :: l, h, x, hx => by
    simp only [risesB, Bool.and_eq_true] at h
    rcases List.mem_cons.1 hx with rfl | hx
    · exact h.1
    · exact risesB_all cmp ok _ l h.2 x hx
  | some z, y :: l, h, x, hx => by
    simp only [risesB, Bool.and_eq_true] at h
    rcases List.mem_cons.1 hx with rfl | hx
    · exact h.1.1
    · exact risesB_all cmp ok _ l h.2 x hx
theorem okSS_all {l : List ByteArray} (h : okSS l = true) : l.length ≤ 1000 ∧ ∀ s ∈ l, s.size ≤ 127 := by
  unfold okSS at h
  simp only [Bool.and_eq_true, decide_eq_true_eq] at h
  refine ⟨h.1.2, fun s hs => ?_⟩
  have := risesB_all _ _ _ _ h.2 s hs
  simpa [okS] using this
theorem okII_all {l : List Int} (h : okII l = true) : l.length ≤ 1000 ∧ ∀ n ∈ l, -1000000000000000000 ≤ n ∧ n ≤ 1000000000000000000 := by
  unfold okII at h
  simp only [Bool.and_eq_true, decide_eq_true_eq] at h
  refine ⟨h.1.2, fun s hs => ?_⟩
  have := risesB_all _ _ _ _ h.2 s hs
  simpa [okI] using this
theorem opOK_all {b : Bool} {n : Int} (h : opOK b n = true) : 0 ≤ n ∧ n ≤ 65535 := by
 unfold opOK at h
 split at h
 ·
  simpa using h
 ·
  have : n = 0 := by simpa using h
  omega
structure Form (g : Pg) : Prop where
  len : g.T.length + g.N.length + g.S.length + g.M.length ≤ 4096
  clen : g.C.length ≤ 32768
  dep : 0 ≤ g.dep ∧ g.dep ≤ 128
  loc : 0 ≤ g.loc ∧ g.loc ≤ 1024
  T : ∀ s ∈ g.T, s.size ≤ 127
  N : ∀ n ∈ g.N, -1000000000000000000 ≤ n ∧ n ≤ 1000000000000000000
  S : ∀ y ∈ g.S, y.length ≤ 1000 ∧ ∀ s ∈ y, s.size ≤ 127
  M : ∀ y ∈ g.M, y.length ≤ 1000 ∧ ∀ n ∈ y, -1000000000000000000 ≤ n ∧ n ≤ 1000000000000000000
  C : ∀ x ∈ g.C, (0 ≤ x.f1 ∧ x.f1 ≤ 65535) ∧ (0 ≤ x.f2 ∧ x.f2 ≤ 65535) ∧ (0 ≤ x.f3 ∧ x.f3 ≤ 65535)
theorem formed_form {g : Pg} (h : formedB g = true) : Form g := by
 unfold formedB at h
 simp only [Bool.and_eq_true, decide_eq_true_eq] at h
 obtain ⟨h1, h2, h3, h4, h5, h6, h7, h8⟩ := h
 refine ⟨h1, h2, ⟨h3.1, h3.2.1⟩, ⟨h3.2.2.1, h3.2.2.2⟩, fun s hs => ?_, fun n hn => ?_, fun y hy => okSS_all (risesB_all _ _ _ _ h6 y hy), fun y hy => okII_all (risesB_all _ _ _ _ h7 y hy), fun x hx => ?_⟩
 ·
  simpa [okS] using risesB_all _ _ _ _ h4 s hs
 ·
  simpa [okI] using risesB_all _ _ _ _ h5 n hn
 ·
  have := List.all_eq_true.1 h8 x hx
  unfold instrOK at this
  simp only [Bool.and_eq_true] at this
  exact ⟨opOK_all this.2.1, opOK_all this.2.2.1, opOK_all this.2.2.2⟩
set_option maxHeartbeats 4000000 in
set_option maxRecDepth 100000 in
theorem encode_any (w : World) (A0 A1 A2 A3 A4 : Option Addr) (c0 c1 c2 c3 c4 : Nat) (g : Pg) (h : InPg w A0 A1 A2 A3 A4 c0 c1 c2 c3 c4 g) (f : Fits g) :
 Calls Try.prog 12 #[valPg A0 A1 A2 A3 A4 c0 c1 c2 c3 c4 g] w (IsEnc w g) := by
 have hW1 := h.below (below_alloc (Below.refl w.heap.size w) (.cells #[.slice A0 g.T.length c0, .slice A1 g.N.length c1, .slice A2 g.S.length c2, .slice A3 g.M.length c3, .slice A4 g.C.length c4, .int .i64 g.dep, .int .i64 g.loc] 32))
 have HF := formed_any _ A0 A1 A2 A3 A4 c0 c1 c2 c3 c4 g hW1 f
 unfold IsEnc
 unfold valPg at HF ⊢
 cases hB : formedB g with
 | false =>
  rw [hB] at HF
  clear hB
  go_enter Try.func12, Try.ntmps12
  go_wp2_with (fail)
  refine HF.mono ?_
  rintro e W ⟨rfl, bel⟩
  go_wp2_with (fail)
  go_ret2
  exact ⟨rfl, (below_alloc (Below.refl w.heap.size w) _).trans (bel.mono (by simp))⟩
 | true =>
  rw [hB] at HF
  obtain ⟨F1, F2, F3, F4, F5, F6, F7, F8, F9⟩ := formed_form hB
  clear hB
  generalize hE : encP g = E
  have HE := hid_ hE
  clear hE
  go_enter Try.func12, Try.ntmps12
  go_wp2_with (fail)
  refine HF.mono ?_
  rintro e W ⟨rfl, bel⟩
  have hcv : (convert 34 34 (.slice (some ⟨W.heap.size, 0, none⟩) 4 4)).run Try.prog (W.alloc (.cells #[.int .u8 66, .int .u8 82, .int .u8 84, .int .u8 1] 5)) = .ok (.slice (some ⟨W.heap.size, 0, none⟩) 4 4) (W.alloc (.cells #[.int .u8 66, .int .u8 82, .int .u8 84, .int .u8 1] 5 (4, 5))) :=
   Lib.run_convert_bytes_const W 34 5 #[.int .u8 66, .int .u8 82, .int .u8 84, .int .u8 1] 4 4 Try.underlying34 Try.underlying5
  have hbox : W.heap[w.heap.size]? = some (.cells #[.slice A0 g.T.length c0, .slice A1 g.N.length c1, .slice A2 g.S.length c2, .slice A3 g.M.length c3, .slice A4 g.C.length c4, .int .i64 g.dep, .int .i64 g.loc] 32 (0, 0)) := (bel.block _ (by simp)).trans (heap_alloc_new w _)
  have hbW : Below w.heap.size w W := (below_alloc (Below.refl w.heap.size w) _).trans (bel.mono (by simp))
  have hbox2 := (heap_alloc_old W (.cells #[.int .u8 66, .int .u8 82, .int .u8 84, .int .u8 1] 5 (4, 5)) (blk_lt hbox)).trans hbox
  obtain ⟨q0, q1, q2, q3, q4, q5, q6⟩ := boxed hbox2
  have HP := putCount_first (W.alloc (.cells #[.int .u8 66, .int .u8 82, .int .u8 84, .int .u8 1] 5 (4, 5))) W.heap.size g.dep F3.1 F3.2 (heap_alloc_new W _)
  clear HF hW1 bel
  go_wp2_with (fail)
  refine HP.mono ?_
  rintro e W4 ⟨v, rfl, hr, hb⟩
  have hS : StE w W4 A0 A1 A2 A3 A4 c0 c1 c2 c3 c4 g v ([66, 82, 84, 1] ++ encCount g.dep) :=
   ⟨(below_alloc hbW _).trans (hb.mono (by have := hbW.size; simp; omega)), (hb.block _ (blk_lt hbox2)).trans hbox2, Kd.R_lower (Kd.R_mono hr (fun k hk => by have := blk_lt hbox2; omega)) (by have := hbW.size; simp; omega)⟩
  have hL1 : ([66, 82, 84, 1] ++ encCount g.dep).length ≤ 14 := by have := encCount_len g.dep; simp only [List.length_append, List.length_cons, List.length_nil]; omega
  clear HP hcv hbox hbox2 hbW hr hb q0 q1 q2 q3 q4 q5 q6
  generalize hl1 : [66, 82, 84, 1] ++ encCount g.dep = l1 at hS hL1
  have HL1 := hid_ hl1; clear hl1
  obtain ⟨q0, q1, q2, q3, q4, q5, q6⟩ := boxed hS.box
  have HP2 := code_putCount.calls 100000 (fun k => w.heap.size < k) _ l1 g.loc _ w _ hS.below hS.row (putCount_f 100000 l1 g.loc F4.1 (by omega) (by omega) (by omega))
  go_wp2_with (fail)
  refine HP2.mono ?_
  rintro e W2' ⟨v2, rfl, hr, hb, hk⟩
  have hS2 := hS.step hr hb hk
  have hL2 : (l1 ++ encCount g.loc).length ≤ 24 := by
   have := encCount_len g.loc
   rw [List.length_append]
   omega
  clear HP2 hr hb hk hS q0 q1 q2 q3 q4 q5 q6
  generalize hl2 : l1 ++ encCount g.loc = l2 at hS2 hL2
  have HL2 := hid_ hl2; clear hl2
  have hS := hS2
  clear hS2
  obtain ⟨q0, q1, q2, q3, q4, q5, q6⟩ := boxed hS.box
  have HP3 := code_putList_string_25.calls 100000 (fun k => w.heap.size < k) _ l2 A0 c0 g.T _ w _ hS.below hS.row (StE.came Kd.heap_string h.T hS) h.lT (code_putList_string_25_f' g.T (by omega) F5 100000 l2 (by omega) (by omega) (by omega))
  go_wp2_with (fail)
  refine HP3.mono ?_
  rintro e W3' ⟨v3, rfl, hr, hb, hk⟩
  have hS2 := hS.step hr hb hk
  have hL3 : (l2 ++ encList encText g.T).length ≤ 34 + g.T.length * 137 := by
   have := encList_len encText 137 g.T (fun s hs => encText_len s (F5 s hs))
   rw [List.length_append]
   omega
  clear HP3 hr hb hk hS q0 q1 q2 q3 q4 q5 q6
  generalize hl3 : l2 ++ encList encText g.T = l3 at hS2 hL3
  have HL3 := hid_ hl3; clear hl3
  have hS := hS2
  clear hS2
  obtain ⟨q0, q1, q2, q3, q4, q5, q6⟩ := boxed hS.box
  have HP4 := code_putList_int_27.calls 100000 (fun k => w.heap.size < k) _ l3 A1 c1 g.N _ w _ hS.below hS.row (StE.came (Kd.heap_int _) h.N hS) h.lN (code_putList_int_27_f' g.N (by omega) F6 100000 l3 (by omega) (by omega) (by omega))
  go_wp2_with (fail)
  refine HP4.mono ?_
  rintro e W4' ⟨v4, rfl, hr, hb, hk⟩
  have hS2 := hS.step hr hb hk
  have hL4 : (l3 ++ encList encNum g.N).length ≤ 44 + g.T.length * 137 + g.N.length * 10 := by
   have := encList_len encNum 10 g.N (fun n _ => encCount_len _)
   rw [List.length_append]
   omega
  clear HP4 hr hb hk hS q0 q1 q2 q3 q4 q5 q6
  generalize hl4 : l3 ++ encList encNum g.N = l4 at hS2 hL4
  have HL4 := hid_ hl4; clear hl4
  have hS := hS2
  clear hS2
  obtain ⟨q0, q1, q2, q3, q4, q5, q6⟩ := boxed hS.box
  have HP5 := code_putList_string_29.calls 100000 (fun k => w.heap.size < k) _ l4 A2 c2 g.S _ w _ hS.below hS.row (StE.came (Kd.heap_slice 9 Kd.heap_string) h.S hS) h.lS (code_putList_string_29_f' g.S (by omega) F7 100000 l4 (by omega) (by omega) (by omega))
  go_wp2_with (fail)
  refine HP5.mono ?_
  rintro e W5' ⟨v5, rfl, hr, hb, hk⟩
  have hS2 := hS.step hr hb hk
  have hL5 : (l4 ++ encList (encList encText) g.S).length ≤ 54 + g.T.length * 137 + g.N.length * 10 + g.S.length * 137010 := by
   have := encList_len (encList encText) 137010 g.S (fun y hy => by have := encList_len encText 137 y (fun s hs => encText_len s ((F7 y hy).2 s hs)); have := (F7 y hy).1; omega)
   rw [List.length_append]
   omega
  clear HP5 hr hb hk hS q0 q1 q2 q3 q4 q5 q6
  generalize hl5 : l4 ++ encList (encList encText) g.S = l5 at hS2 hL5
  have HL5 := hid_ hl5; clear hl5
  have hS := hS2
  clear hS2
  obtain ⟨q0, q1, q2, q3, q4, q5, q6⟩ := boxed hS.box
  have HP6 := code_putList_int_31.calls 100000 (fun k => w.heap.size < k) _ l5 A3 c3 g.M _ w _ hS.below hS.row (StE.came (Kd.heap_slice 3 (Kd.heap_int _)) h.M hS) h.lM (code_putList_int_31_f' g.M (by omega) F8 100000 l5 (by omega) (by omega) (by omega))
  go_wp2_with (fail)
  refine HP6.mono ?_
  rintro e W6' ⟨v6, rfl, hr, hb, hk⟩
  have hS2 := hS.step hr hb hk
  have hL6 : (l5 ++ encList (encList encNum) g.M).length ≤ 64 + g.T.length * 137 + g.N.length * 10 + g.S.length * 137010 + g.M.length * 10010 := by
   have := encList_len (encList encNum) 10010 g.M (fun y hy => by have := encList_len encNum 10 y (fun n _ => encCount_len _); have := (F8 y hy).1; omega)
   rw [List.length_append]
   omega
  clear HP6 hr hb hk hS q0 q1 q2 q3 q4 q5 q6
  generalize hl6 : l5 ++ encList (encList encNum) g.M = l6 at hS2 hL6
  have HL6 := hid_ hl6; clear hl6
  have hS := hS2
  clear hS2
  obtain ⟨q0, q1, q2, q3, q4, q5, q6⟩ := boxed hS.box
  have HP7 := api_Instr.calls 100000 (fun k => w.heap.size < k) _ l6 A4 c4 g.C _ w _ hS.below hS.row (StE.came heap74 h.C hS) h.lC (api_Instr_f' g.C (by omega) F9 100000 l6 (by omega) (by omega) (by omega))
  go_wp2_with (fail)
  refine HP7.mono ?_
  rintro e W7 ⟨v7, rfl, hr, hb, hk⟩
  go_wp2_with (fail)
  go_ret2
  refine ⟨⟨_, rfl, ?_⟩, hb⟩
  have e7 : E = l6 ++ encList encInstr g.C := by
   rw [← HE.out, ← HL6.out, ← HL5.out, ← HL4.out, ← HL3.out, ← HL2.out, ← HL1.out]
   rfl
  rw [e7]
  exact Kd.R_mono hr (fun _ _ => trivial)
end Go.Proofs.Ytlocnfkkfpfpfaa.D
