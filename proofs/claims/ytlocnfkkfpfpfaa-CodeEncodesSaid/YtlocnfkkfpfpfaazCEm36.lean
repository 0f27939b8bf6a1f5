/- The reference's Encode: its walk (printed by gen_h4.py). -/
import Derived.Test.YtlocnfkkfpfpfaazCEm34
import Derived.Test.YtlocnfkkfpfpfaazCEm35
namespace Go.Proofs.Ytlocnfkkfpfpfaa.D
open Go.RowKit Go.Proofs.YtlocnfkkfpfpfaaW.PrintWords Go.Proofs.YtlocnfkkfpfpfaaW.PrintLast Go.Proofs.YtlocnfkkfpfpfaaW.PrintMore Go.Proofs.Ytlocnfkkfpfpfaa.Six
set_option linter.unusedSimpArgs false
set_option linter.unusedVariables false
section
variable {w W W1 : World} {A0 A1 A2 A3 A4 : Option Addr} {c0 c1 c2 c3 c4 : Nat} {g : Pg} {v : Value} {l c : List Int}
theorem StE.alloc (h : StE w W A0 A1 A2 A3 A4 c0 c1 c2 c3 c4 g v l) (o : Obj) : StE w (W.alloc o) A0 A1 A2 A3 A4 c0 c1 c2 c3 c4 g v l :=
  ⟨below_alloc h.below o, (heap_alloc_old W o (blk_lt h.box)).trans h.box, Kd.R_alloc h.row o⟩
theorem StE.drewN (h : StE w W A0 A1 A2 A3 A4 c0 c1 c2 c3 c4 g v l) (n : Nat) : StE w (W.drewN n) A0 A1 A2 A3 A4 c0 c1 c2 c3 c4 g v l :=
  ⟨pw_below_drewN h.below n, h.box, Kd.R_drewN h.row n⟩
theorem StE.append {ops : Array Oper} {rest : List Oper} {o : Oper} {a : Act} {Q : Exit → Act → World → Prop} (hS : StE w W A0 A1 A2 A3 A4 c0 c1 c2 c3 c4 g v l) (hb1 : Below W.heap.size W W1) (hgd : o.guard = none) (s x : Operand)
    (ho : o.op = .call { callee := .builtin .append, args := #[s, x], argTypes := #[34, 34] }) {Ac : Option Addr} {cc : Nat} (hs : a.eval s = v) (hx : a.eval x = .slice Ac c.length cc) (rc : Kd.C (Kd.int .u8) W1 Ac c.length c) (hl : l.length + c.length ≤ 700000000)
    (h : ∀ v2 w2, StE w w2 A0 A1 A2 A3 A4 c0 c1 c2 c3 c4 g v2 (l ++ c) → (∀ k, k < W1.heap.size → some k ≠ v.ownBlock → w2.heap[k]? = W1.heap[k]?) → wpList Try.prog ops Q rest (a.put o.dst v2) w2) :
    wpList Try.prog ops Q (o :: rest) a W1 := by
  have hlt := blk_lt hS.box
  have hsz := hb1.size
  have hbw : Below w.heap.size w W1 := hS.below.trans (hb1.mono (by omega))
  refine Kd.R_append_rows (Kd.int .u8) (w0 := w) w.heap.size hgd s x 34 5 (.int .u8 0) 1 ho Try.underlying34 info5 rfl (by decide) (by omega) v l c Ac c.length cc (fun k => w.heap.size < k) (fun _ => False) hs hx (Kd.R_below hS.row hb1) rc (fun _ _ h => h) (fun _ hk => hk.elim) (fun k hk => by omega) hbw (by omega) (by omega) ?_
  intro v2 w2 hr hb hg _
  refine h v2 w2 ⟨hb, ?_, hr⟩ (fun k hk hne => hg.block k hk hne)
  have hne : some w.heap.size ≠ v.ownBlock := fun e => by
    have := hS.row.1 _ e.symm
    omega
  exact (hg.block _ (by omega) hne).trans ((hb1.block _ hlt).trans hS.box)
end
theorem app_next {l c t E : List Int} (h : Hid (l ++ (c ++ t) = E)) : Hid ((l ++ c) ++ t = E) := hid_ (by rw [List.append_assoc]; exact h.out)
theorem app_len {l c t E : List Int} (h : Hid (l ++ (c ++ t) = E)) (hE : E.length ≤ 700000000) : l.length + c.length ≤ 700000000 := by
  have := congrArg List.length h.out
  simp only [List.length_append] at this
  omega
theorem C_ints {W : World} {X : Nat} (xs : List Int) (h : W.heap[X]? = some (.cells (xs.map (Value.int .u8)).toArray 5 (0, 0))) (hl : xs.length ≤ 1000) : Kd.C (Kd.int .u8) W (some ⟨X, 0, none⟩) xs.length xs := by
  have ho : W.ownsRow X 5 1 (.slice (some ⟨X, 0, none⟩) xs.length xs.length) xs.length (xs.map (Value.int .u8)) :=
    ⟨by simp, .inr ⟨X, xs.length, _, rfl, Nat.le_refl _, h, Nat.le_refl _, by simp only [maxLen]; omega, by simp, by rw [Nat.mul_one]; exact List.take_of_length_le (by simp)⟩⟩
  exact (Kd.R_reads' (own_ints (ok := fun _ => True) ho (fun _ _ => trivial))).2.2
theorem formed_ops {g : Pg} (h : formedB g = true) : ∀ x ∈ g.C, 1 ≤ x.f0 ∧ x.f0 ≤ 36 := by
  unfold formedB at h
  simp only [Bool.and_eq_true, decide_eq_true_eq] at h
  obtain ⟨h1, h2, h3, h4, h5, h6, h7, h8⟩ := h
  intro x hx
  have := List.all_eq_true.1 h8 x hx
  unfold instrOK at this
  simp only [Bool.and_eq_true, decide_eq_true_eq] at this
  exact this.1
set_option maxHeartbeats 8000000 in
set_option maxRecDepth 100000 in
theorem refEncode_any (w : World) (A0 A1 A2 A3 A4 : Option Addr) (c0 c1 c2 c3 c4 : Nat) (g : Pg) (h : InPg w A0 A1 A2 A3 A4 c0 c1 c2 c3 c4 g) (f : Fits g) :
 Calls Try.prog 13 #[valPg A0 A1 A2 A3 A4 c0 c1 c2 c3 c4 g] w (IsEnc w g) := by
 have hbx := InBox.new (Below.refl w.heap.size w) h
 have HF := hasForm_any _ A0 A1 A2 A3 A4 c0 c1 c2 c3 c4 g hbx.inp f
 unfold IsEnc
 unfold valPg at HF ⊢
 cases hB : formedB g with
 | false =>
  rw [hB] at HF
  clear hB
  obtain ⟨q0, q1, q2, q3, q4, q5, q6⟩ := boxed hbx.box
  have bel0 := hbx.below
  clear hbx
  go_enter Try.func13, Try.ntmps13
  go_wp2_with (fail)
  refine HF.mono ?_
  rintro e W ⟨rfl, bel⟩
  go_wp2_with (fail)
  go_ret2
  exact ⟨rfl, bel0.trans (bel.mono (by simp))⟩
 | true =>
  rw [hB] at HF
  obtain ⟨F1, F2, F3, F4, F5, F6, F7, F8, F9⟩ := formed_form hB
  have F10 : ∀ x ∈ g.C, 1 ≤ x.f0 ∧ x.f0 ≤ 36 := formed_ops hB
  have hEl := encP_len g hB
  clear hB
  have hE0 := encP_eq g
  generalize encP g = E at hE0 hEl ⊢
  obtain ⟨R1, hR1⟩ : ∃ R, R = encList encInstr g.C := ⟨_, rfl⟩
  obtain ⟨R2, hR2⟩ : ∃ R, R = encList (encList encNum) g.M ++ R1 := ⟨_, rfl⟩
  obtain ⟨R3, hR3⟩ : ∃ R, R = encList (encList encText) g.S ++ R2 := ⟨_, rfl⟩
  obtain ⟨R4, hR4⟩ : ∃ R, R = encList encNum g.N ++ R3 := ⟨_, rfl⟩
  obtain ⟨R5, hR5⟩ : ∃ R, R = encList encText g.T ++ R4 := ⟨_, rfl⟩
  rw [← hR1, ← hR2, ← hR3, ← hR4, ← hR5] at hE0
  have HE0 := hid_ hE0
  have HR1 := hid_ hR1
  have HR2 := hid_ hR2
  have HR3 := hid_ hR3
  have HR4 := hid_ hR4
  have HR5 := hid_ hR5
  clear hE0 hR1 hR2 hR3 hR4 hR5
  obtain ⟨q0, q1, q2, q3, q4, q5, q6⟩ := boxed hbx.box
  go_enter Try.func13, Try.ntmps13
  go_wp2_with (fail)
  refine HF.mono ?_
  rintro e W ⟨rfl, bel⟩
  have hb2 := hbx.next bel
  clear HF hbx bel q0 q1 q2 q3 q4 q5 q6
  have hS : StE w (W.alloc (.cells #[.int .u8 66, .int .u8 82, .int .u8 84, .int .u8 1] 5)) A0 A1 A2 A3 A4 c0 c1 c2 c3 c4 g (.slice (some ⟨W.heap.size, 0, none⟩) 4 4) [66, 82, 84, 1] := by
   have hlt := blk_lt hb2.box
   have ho : (W.alloc (.cells #[.int .u8 66, .int .u8 82, .int .u8 84, .int .u8 1] 5)).ownsRow w.heap.size 5 1 (.slice (some ⟨W.heap.size, 0, none⟩) 4 4) 4 ([66, 82, 84, 1].map (Value.int .u8)) := ⟨rfl, .inr ⟨W.heap.size, 4, _, rfl, by omega, heap_alloc_new W _, by omega, by simp only [maxLen]; omega, rfl, rfl⟩⟩
   exact ⟨below_alloc hb2.below _, (heap_alloc_old W _ hlt).trans hb2.box, ⟨fun k hk => by (have h2 : W.heap.size = k := by simpa [Value.ownBlock] using hk); omega, _, ho, Kd.reps_scalar (enc := Value.int .u8) [66, 82, 84, 1]⟩⟩
  have hE : Hid ([66, 82, 84, 1] ++ (encCount g.dep ++ (encCount g.loc ++ R5)) = E) := hid_ HE0.out.symm
  clear HE0
  obtain ⟨q0, q1, q2, q3, q4, q5, q6⟩ := boxed hS.box
  clear q0 q1 q2 q3 q4 q5 q6
  obtain ⟨q0, q1, q2, q3, q4, q5, q6⟩ := boxed hS.box
  go_wp2_with (fail)
  clear q0 q1 q2 q3 q4 q5 q6
  have hlen := app_len hE hEl
  refine (refCount_any (W.alloc (.cells #[.int .u8 66, .int .u8 82, .int .u8 84, .int .u8 1] 5)) g.dep F3.1 (by omega)).mono ?_
  rintro e w1 ⟨vc, rfl, hrc, bc⟩
  obtain ⟨Ac, cc, rfl, kc, rc⟩ := Kd.R_reads hrc
  go_wp2_with ((with_reducible refine gate_builtin (b := .append) (xs := #[.tmp 20, .tmp 23]) rfl ?_); at_builtin; refine hS.append bc rfl (.tmp 20) (.tmp 23) rfl rfl rfl rc hlen ?_; intro v2 w2 hS2 hkeep; obtain ⟨r0, r1, r2, r3, r4, r5, r6⟩ := boxed hS2.box)
  have hE2 := app_next hE
  clear hS hE hlen hrc bc rc kc hkeep r0 r1 r2 r3 r4 r5 r6
  have hS := hS2; clear hS2
  have hE := hE2; clear hE2
  generalize [66, 82, 84, 1] ++ encCount g.dep = l1 at hS hE
  have hlen := app_len hE hEl
  refine (refCount_any w2 g.loc F4.1 (by omega)).mono ?_
  rintro e w1 ⟨vc, rfl, hrc, bc⟩
  obtain ⟨Ac, cc, rfl, kc, rc⟩ := Kd.R_reads hrc
  go_wp2_with ((with_reducible refine gate_builtin (b := .append) (xs := #[.tmp 25, .tmp 28]) rfl ?_); at_builtin; refine hS.append bc rfl (.tmp 25) (.tmp 28) rfl rfl rfl rc hlen ?_; intro v2 w2 hS2 hkeep; obtain ⟨r0, r1, r2, r3, r4, r5, r6⟩ := boxed hS2.box)
  have hE2 := app_next hE
  clear hS hE hlen hrc bc rc kc hkeep r0 r1 r2 r3 r4 r5 r6
  have hS := hS2; clear hS2
  have hE := hE2; clear hE2
  generalize l1 ++ encCount g.loc = l2 at hS hE
  have hE2 : Hid (l2 ++ (encCount (g.T.length : Int) ++ (((g.T.map (encText)).flatten) ++ R4)) = E) := by
   have := hE.out
   rw [HR5.out] at this
   unfold encList at this
   rw [List.append_assoc] at this
   exact hid_ this
  clear hE
  have hE := hE2; clear hE2
  have hlen := app_len hE hEl
  refine (refCount_any w2 (g.T.length : Int) (by omega) (by omega)).mono ?_
  rintro e w1 ⟨vc, rfl, hrc, bc⟩
  obtain ⟨Ac, cc, rfl, kc, rc⟩ := Kd.R_reads hrc
  go_wp2_with ((with_reducible refine gate_builtin (b := .append) (xs := #[.tmp 30, .tmp 34]) rfl ?_); at_builtin; refine hS.append bc rfl (.tmp 30) (.tmp 34) rfl rfl rfl rc hlen ?_; intro v2 w2 hS2 hkeep; obtain ⟨r0, r1, r2, r3, r4, r5, r6⟩ := boxed hS2.box)
  have hE2 := app_next hE
  clear hS hE hlen hrc bc rc kc hkeep r0 r1 r2 r3 r4 r5 r6
  have hS := hS2; clear hS2
  have hE := hE2; clear hE2
  generalize l2 ++ encCount (g.T.length : Int) = l3 at hS hE
  go_loopw [4, 5] (fun out i wr => ∃ (k : Nat) (l : List Int), k ≤ g.T.length ∧ i = .int .i64 k ∧ StE w wr A0 A1 A2 A3 A4 c0 c1 c2 c3 c4 g out l ∧ l ++ (((g.T.drop k).map encText).flatten ++ R4) = E) (fun _ i _ => g.T.length - (intOf i).toNat)
  case atStart => exact ⟨0, _, by omega, rfl, hS, by rw [List.drop_zero]; exact hE.out⟩
  case round =>
   clear hS hE
   obtain ⟨k, l, hk, rfl, hS, he⟩ := hrel
   have hE := hid_ he; clear he
   have hI := h.below hS.below
   by_cases hlt : k < g.T.length
   ·
    obtain ⟨ad, rfl, hcell⟩ := Kd.at_string hI.T (k : Int) (by omega) (by omega)
    rw [Int.toNat_natCast, show rdOf ByteArray.empty g.T (k : Int) = g.T[k] by simp [rdOf, hlt]] at hcell
    have he := hE.out
    rw [List.drop_eq_getElem_cons hlt, List.map_cons, List.flatten_cons, List.append_assoc] at he
    have hx := F5 _ (List.getElem_mem hlt)
    have hlk : (k : Int) < (g.T.length : Int) := by omega
    have hk0 : 0 ≤ (k : Int) := by omega
    generalize g.T[k] = x at hcell he hx
    generalize hR : ((g.T.drop (k + 1)).map encText).flatten ++ R4 = R at he
    have HR := hid_ hR; clear hR hE
    have hE := hid_ he; clear he
    obtain ⟨q0, q1, q2, q3, q4, q5, q6⟩ := boxed hS.box
    go_wp2_with (fail)
    clear q0 q1 q2 q3 q4 q5 q6
    have hlen := app_len hE hEl
    refine (refText_any wr x hx).mono ?_
    rintro e w1 ⟨vc, rfl, hrc, bc⟩
    obtain ⟨Ac, cc, rfl, kc, rc⟩ := Kd.R_reads hrc
    go_wp2_with ((with_reducible refine gate_builtin (b := .append) (xs := #[.tmp 43, .tmp 49]) rfl ?_); at_builtin; refine hS.append bc rfl (.tmp 43) (.tmp 49) rfl rfl rfl rc hlen ?_; intro v2 w2 hS2 hkeep; obtain ⟨r0, r1, r2, r3, r4, r5, r6⟩ := boxed hS2.box)
    have hE2 := app_next hE
    go_roundw
    case rel => exact ⟨k + 1, _, by omega, by go_num, hS2, by rw [HR.out]; exact hE2.out⟩
    case measure => simp [intOf]; omega
   ·
    have he : l ++ R4 = E := by
     have := hE.out
     rw [List.drop_eq_nil_of_le (by omega)] at this
     exact this
    clear hE
    have hE := hid_ he; clear he
    have hge : ¬ (k : Int) < (g.T.length : Int) := by omega
    clear hI hlt
    have hE2 : Hid (l ++ (encCount (g.N.length : Int) ++ (((g.N.map (encNum)).flatten) ++ R3)) = E) := by
     have := hE.out
     rw [HR4.out] at this
     unfold encList at this
     rw [List.append_assoc] at this
     exact hid_ this
    clear hE
    have hE := hE2; clear hE2
    obtain ⟨q0, q1, q2, q3, q4, q5, q6⟩ := boxed hS.box
    have hge2 := hge
    go_wp2_with (fail)
    clear q0 q1 q2 q3 q4 q5 q6
    have hlen := app_len hE hEl
    refine (refCount_any wr (g.N.length : Int) (by omega) (by omega)).mono ?_
    rintro e w1 ⟨vc, rfl, hrc, bc⟩
    obtain ⟨Ac, cc, rfl, kc, rc⟩ := Kd.R_reads hrc
    go_wp2_with ((with_reducible refine gate_builtin (b := .append) (xs := #[.tmp 51, .tmp 55]) rfl ?_); at_builtin; refine hS.append bc rfl (.tmp 51) (.tmp 55) rfl rfl rfl rc hlen ?_; intro v2 w2 hS2 hkeep; obtain ⟨r0, r1, r2, r3, r4, r5, r6⟩ := boxed hS2.box)
    have hE2 := app_next hE
    clear hS hE hlen hrc bc rc kc hkeep r0 r1 r2 r3 r4 r5 r6 hge
    have hS := hS2; clear hS2
    have hE := hE2; clear hE2
    generalize l ++ encCount (g.N.length : Int) = l4 at hS hE
    clear hge2
    go_loopw [4, 6] (fun out i wr => ∃ (k : Nat) (l : List Int), k ≤ g.N.length ∧ i = .int .i64 k ∧ StE w wr A0 A1 A2 A3 A4 c0 c1 c2 c3 c4 g out l ∧ l ++ (((g.N.drop k).map encNum).flatten ++ R3) = E) (fun _ i _ => g.N.length - (intOf i).toNat)
    case atStart => exact ⟨0, _, by omega, rfl, hS, by rw [List.drop_zero]; exact hE.out⟩
    case round =>
     clear hS hE
     obtain ⟨k, l, hk, rfl, hS, he⟩ := hrel
     have hE := hid_ he; clear he
     have hI := h.below hS.below
     by_cases hlt : k < g.N.length
     ·
      obtain ⟨ad, rfl, hcell⟩ := Kd.at_int hI.N (k : Int) (by omega) (by omega)
      rw [Int.toNat_natCast, show rd g.N (k : Int) = g.N[k] by simp [rd, hlt]] at hcell
      have he := hE.out
      rw [List.drop_eq_getElem_cons hlt, List.map_cons, List.flatten_cons, List.append_assoc] at he
      have hx := F6 _ (List.getElem_mem hlt)
      have hlk : (k : Int) < (g.N.length : Int) := by omega
      have hk0 : 0 ≤ (k : Int) := by omega
      generalize g.N[k] = x at hcell he hx
      generalize hR : ((g.N.drop (k + 1)).map encNum).flatten ++ R3 = R at he
      have HR := hid_ hR; clear hR hE
      have hE := hid_ he; clear he
      obtain ⟨q0, q1, q2, q3, q4, q5, q6⟩ := boxed hS.box
      go_wp2_with (fail)
      clear q0 q1 q2 q3 q4 q5 q6
      have hlen := app_len hE hEl
      refine (refSigned_any wr x hx).mono ?_
      rintro e w1 ⟨vc, rfl, hrc, bc⟩
      obtain ⟨Ac, cc, rfl, kc, rc⟩ := Kd.R_reads hrc
      go_wp2_with ((with_reducible refine gate_builtin (b := .append) (xs := #[.tmp 64, .tmp 70]) rfl ?_); at_builtin; refine hS.append bc rfl (.tmp 64) (.tmp 70) rfl rfl rfl rc hlen ?_; intro v2 w2 hS2 hkeep; obtain ⟨r0, r1, r2, r3, r4, r5, r6⟩ := boxed hS2.box)
      have hE2 := app_next hE
      go_roundw
      case rel => exact ⟨k + 1, _, by omega, by go_num, hS2, by rw [HR.out]; exact hE2.out⟩
      case measure => simp [intOf]; omega
     ·
      have he : l ++ R3 = E := by
       have := hE.out
       rw [List.drop_eq_nil_of_le (by omega)] at this
       exact this
      clear hE
      have hE := hid_ he; clear he
      have hge : ¬ (k : Int) < (g.N.length : Int) := by omega
      clear hI hlt
      have hE2 : Hid (l ++ (encCount (g.S.length : Int) ++ (((g.S.map (encList encText)).flatten) ++ R2)) = E) := by
       have := hE.out
       rw [HR3.out] at this
       unfold encList at this
       rw [List.append_assoc] at this
       exact hid_ this
      clear hE
      have hE := hE2; clear hE2
      obtain ⟨q0, q1, q2, q3, q4, q5, q6⟩ := boxed hS.box
      have hge2 := hge
      go_wp2_with (fail)
      clear q0 q1 q2 q3 q4 q5 q6
      have hlen := app_len hE hEl
      refine (refCount_any wr (g.S.length : Int) (by omega) (by omega)).mono ?_
      rintro e w1 ⟨vc, rfl, hrc, bc⟩
      obtain ⟨Ac, cc, rfl, kc, rc⟩ := Kd.R_reads hrc
      go_wp2_with ((with_reducible refine gate_builtin (b := .append) (xs := #[.tmp 72, .tmp 76]) rfl ?_); at_builtin; refine hS.append bc rfl (.tmp 72) (.tmp 76) rfl rfl rfl rc hlen ?_; intro v2 w2 hS2 hkeep; obtain ⟨r0, r1, r2, r3, r4, r5, r6⟩ := boxed hS2.box)
      have hE2 := app_next hE
      clear hS hE hlen hrc bc rc kc hkeep r0 r1 r2 r3 r4 r5 r6 hge
      have hS := hS2; clear hS2
      have hE := hE2; clear hE2
      generalize l ++ encCount (g.S.length : Int) = l5 at hS hE
      clear hge2
      go_loopw [4, 7] (fun out i wr => ∃ (k : Nat) (l : List Int), k ≤ g.S.length ∧ i = .int .i64 k ∧ StE w wr A0 A1 A2 A3 A4 c0 c1 c2 c3 c4 g out l ∧ l ++ (((g.S.drop k).map (encList encText)).flatten ++ R2) = E) (fun _ i _ => g.S.length - (intOf i).toNat)
      case atStart => exact ⟨0, _, by omega, rfl, hS, by rw [List.drop_zero]; exact hE.out⟩
      case round =>
       clear hS hE
       obtain ⟨k, l, hk, rfl, hS, he⟩ := hrel
       have hE := hid_ he; clear he
       have hI := h.below hS.below
       by_cases hlt : k < g.S.length
       ·
        obtain ⟨ad, B0, b0, rfl, hcell, hcap, hK⟩ := at_L2 hI.S (k : Int) (by omega) (by omega)
        have HX : Hid (rd_L2 g.S (k : Int) = g.S[k]) := hid_ (by simp [rd_L2, hlt])
        rw [HX.out] at hcell hcap hK
        rw [Int.toNat_natCast] at hcell
        have he := hE.out
        rw [List.drop_eq_getElem_cons hlt, List.map_cons, List.flatten_cons, List.append_assoc] at he
        have hx := F7 _ (List.getElem_mem hlt)
        have hlk : (k : Int) < (g.S.length : Int) := by omega
        have hk0 : 0 ≤ (k : Int) := by omega
        generalize g.S[k] = x at hcell hcap hK he hx HX
        generalize hR : ((g.S.drop (k + 1)).map (encList encText)).flatten ++ R2 = R at he
        have HR := hid_ hR; clear hR hE
        have hE : Hid (l ++ (encCount (x.length : Int) ++ ((x.map encText).flatten ++ R)) = E) := by
         unfold encList at he
         rw [List.append_assoc] at he
         exact hid_ he
        clear he
        obtain ⟨hx1, hx2⟩ := hx
        obtain ⟨q0, q1, q2, q3, q4, q5, q6⟩ := boxed hS.box
        go_wp2_with (fail)
        clear q0 q1 q2 q3 q4 q5 q6
        have hlen := app_len hE hEl
        refine (refCount_any wr (x.length : Int) (by omega) (by omega)).mono ?_
        rintro e w1 ⟨vc, rfl, hrc, bc⟩
        obtain ⟨Ac, cc, rfl, kc, rc⟩ := Kd.R_reads hrc
        go_wp2_with ((with_reducible refine gate_builtin (b := .append) (xs := #[.tmp 85, .tmp 92]) rfl ?_); at_builtin; refine hS.append bc rfl (.tmp 85) (.tmp 92) rfl rfl rfl rc hlen ?_; intro v2 w2 hS2 hkeep; obtain ⟨r0, r1, r2, r3, r4, r5, r6⟩ := boxed hS2.box)
        have hE2 := app_next hE
        clear hS hE hlen hrc bc rc kc hkeep r0 r1 r2 r3 r4 r5 r6 hcell hcap hK hI
        have hS := hS2; clear hS2
        have hE := hE2; clear hE2
        generalize l ++ encCount (x.length : Int) = l6 at hS hE
        go_loopw [4, 8] (fun out i wr => ∃ (j : Nat) (l : List Int), j ≤ x.length ∧ i = .int .i64 j ∧ StE w wr A0 A1 (some ad) A3 A4 c0 c1 c2 c3 c4 g out l ∧ l ++ (((x.drop j).map encText).flatten ++ R) = E) (fun _ i _ => x.length - (intOf i).toNat)
        case atStart => exact ⟨0, _, by omega, rfl, hS, by rw [List.drop_zero]; exact hE.out⟩
        case round =>
         clear hS hE
         obtain ⟨j, l, hj, rfl, hS, he⟩ := hrel
         have hE := hid_ he; clear he
         have hI := h.below hS.below
         obtain ⟨ad2, B1, b1, e2, hcell, hcap, hK⟩ := at_L2 hI.S (k : Int) (by omega) (by omega)
         obtain rfl := Option.some.inj e2
         rw [HX.out] at hcell hcap hK
         rw [Int.toNat_natCast] at hcell
         by_cases hjt : j < x.length
         ·
          obtain ⟨ae, rfl, hce⟩ := Kd.at_string hK (j : Int) (by omega) (by omega)
          rw [Int.toNat_natCast, show rdOf ByteArray.empty x (j : Int) = x[j] by simp [rdOf, hjt]] at hce
          have he := hE.out
          rw [List.drop_eq_getElem_cons hjt, List.map_cons, List.flatten_cons, List.append_assoc] at he
          have hy := hx2 _ (List.getElem_mem hjt)
          have hjl : (j : Int) < (x.length : Int) := by omega
          have hj0 : 0 ≤ (j : Int) := by omega
          generalize x[j] = y at hce he hy
          generalize hR : ((x.drop (j + 1)).map encText).flatten ++ R = RR at he
          have HRR := hid_ hR; clear hR hE
          have hE := hid_ he; clear he
          obtain ⟨q0, q1, q2, q3, q4, q5, q6⟩ := boxed hS.box
          go_wp2_with (fail)
          clear q0 q1 q2 q3 q4 q5 q6
          have hlen := app_len hE hEl
          refine (refText_any wr y hy).mono ?_
          rintro e w1 ⟨vc, rfl, hrc, bc⟩
          obtain ⟨Ac, cc, rfl, kc, rc⟩ := Kd.R_reads hrc
          go_wp2_with ((with_reducible refine gate_builtin (b := .append) (xs := #[.tmp 104, .tmp 113]) rfl ?_); at_builtin; refine hS.append bc rfl (.tmp 104) (.tmp 113) rfl rfl rfl rc hlen ?_; intro v2 w2 hS2 hkeep; obtain ⟨r0, r1, r2, r3, r4, r5, r6⟩ := boxed hS2.box)
          have hE2 := app_next hE
          go_roundw
          case rel => exact ⟨j + 1, _, by omega, by go_num, hS2, by rw [HRR.out]; exact hE2.out⟩
          case measure => simp [intOf]; omega
         ·
          have he : l ++ R = E := by
           have := hE.out
           rw [List.drop_eq_nil_of_le (by omega)] at this
           exact this
          clear hE
          have hge : ¬ (j : Int) < (x.length : Int) := by omega
          obtain ⟨q0, q1, q2, q3, q4, q5, q6⟩ := boxed hS.box
          go_wp2_with (fail)
          go_roundw
          case rel => exact ⟨k + 1, _, by omega, by go_num, hS, by rw [HR.out]; exact he⟩
          case measure => simp [intOf]; omega
       ·
        have he : l ++ R2 = E := by
         have := hE.out
         rw [List.drop_eq_nil_of_le (by omega)] at this
         exact this
        clear hE
        have hE := hid_ he; clear he
        have hge : ¬ (k : Int) < (g.S.length : Int) := by omega
        clear hI hlt
        have hE2 : Hid (l ++ (encCount (g.M.length : Int) ++ (((g.M.map (encList encNum)).flatten) ++ R1)) = E) := by
         have := hE.out
         rw [HR2.out] at this
         unfold encList at this
         rw [List.append_assoc] at this
         exact hid_ this
        clear hE
        have hE := hE2; clear hE2
        obtain ⟨q0, q1, q2, q3, q4, q5, q6⟩ := boxed hS.box
        have hge2 := hge
        go_wp2_with (fail)
        clear q0 q1 q2 q3 q4 q5 q6
        have hlen := app_len hE hEl
        refine (refCount_any wr (g.M.length : Int) (by omega) (by omega)).mono ?_
        rintro e w1 ⟨vc, rfl, hrc, bc⟩
        obtain ⟨Ac, cc, rfl, kc, rc⟩ := Kd.R_reads hrc
        go_wp2_with ((with_reducible refine gate_builtin (b := .append) (xs := #[.tmp 115, .tmp 119]) rfl ?_); at_builtin; refine hS.append bc rfl (.tmp 115) (.tmp 119) rfl rfl rfl rc hlen ?_; intro v2 w2 hS2 hkeep; obtain ⟨r0, r1, r2, r3, r4, r5, r6⟩ := boxed hS2.box)
        have hE2 := app_next hE
        clear hS hE hlen hrc bc rc kc hkeep r0 r1 r2 r3 r4 r5 r6 hge
        have hS := hS2; clear hS2
        have hE := hE2; clear hE2
        generalize l ++ encCount (g.M.length : Int) = l7 at hS hE
        clear hge2
        go_loopw [4, 9] (fun out i wr => ∃ (k : Nat) (l : List Int), k ≤ g.M.length ∧ i = .int .i64 k ∧ StE w wr A0 A1 A2 A3 A4 c0 c1 c2 c3 c4 g out l ∧ l ++ (((g.M.drop k).map (encList encNum)).flatten ++ R1) = E) (fun _ i _ => g.M.length - (intOf i).toNat)
        case atStart => exact ⟨0, _, by omega, rfl, hS, by rw [List.drop_zero]; exact hE.out⟩
        case round =>
         clear hS hE
         obtain ⟨k, l, hk, rfl, hS, he⟩ := hrel
         have hE := hid_ he; clear he
         have hI := h.below hS.below
         by_cases hlt : k < g.M.length
         ·
          obtain ⟨ad, B0, b0, rfl, hcell, hcap, hK⟩ := at_L3 hI.M (k : Int) (by omega) (by omega)
          have HX : Hid (rd_L3 g.M (k : Int) = g.M[k]) := hid_ (by simp [rd_L3, hlt])
          rw [HX.out] at hcell hcap hK
          rw [Int.toNat_natCast] at hcell
          have he := hE.out
          rw [List.drop_eq_getElem_cons hlt, List.map_cons, List.flatten_cons, List.append_assoc] at he
          have hx := F8 _ (List.getElem_mem hlt)
          have hlk : (k : Int) < (g.M.length : Int) := by omega
          have hk0 : 0 ≤ (k : Int) := by omega
          generalize g.M[k] = x at hcell hcap hK he hx HX
          generalize hR : ((g.M.drop (k + 1)).map (encList encNum)).flatten ++ R1 = R at he
          have HR := hid_ hR; clear hR hE
          have hE : Hid (l ++ (encCount (x.length : Int) ++ ((x.map encNum).flatten ++ R)) = E) := by
           unfold encList at he
           rw [List.append_assoc] at he
           exact hid_ he
          clear he
          obtain ⟨hx1, hx2⟩ := hx
          obtain ⟨q0, q1, q2, q3, q4, q5, q6⟩ := boxed hS.box
          go_wp2_with (fail)
          clear q0 q1 q2 q3 q4 q5 q6
          have hlen := app_len hE hEl
          refine (refCount_any wr (x.length : Int) (by omega) (by omega)).mono ?_
          rintro e w1 ⟨vc, rfl, hrc, bc⟩
          obtain ⟨Ac, cc, rfl, kc, rc⟩ := Kd.R_reads hrc
          go_wp2_with ((with_reducible refine gate_builtin (b := .append) (xs := #[.tmp 128, .tmp 135]) rfl ?_); at_builtin; refine hS.append bc rfl (.tmp 128) (.tmp 135) rfl rfl rfl rc hlen ?_; intro v2 w2 hS2 hkeep; obtain ⟨r0, r1, r2, r3, r4, r5, r6⟩ := boxed hS2.box)
          have hE2 := app_next hE
          clear hS hE hlen hrc bc rc kc hkeep r0 r1 r2 r3 r4 r5 r6 hcell hcap hK hI
          have hS := hS2; clear hS2
          have hE := hE2; clear hE2
          generalize l ++ encCount (x.length : Int) = l8 at hS hE
          go_loopw [4, 10] (fun out i wr => ∃ (j : Nat) (l : List Int), j ≤ x.length ∧ i = .int .i64 j ∧ StE w wr A0 A1 A2 (some ad) A4 c0 c1 c2 c3 c4 g out l ∧ l ++ (((x.drop j).map encNum).flatten ++ R) = E) (fun _ i _ => x.length - (intOf i).toNat)
          case atStart => exact ⟨0, _, by omega, rfl, hS, by rw [List.drop_zero]; exact hE.out⟩
          case round =>
           clear hS hE
           obtain ⟨j, l, hj, rfl, hS, he⟩ := hrel
           have hE := hid_ he; clear he
           have hI := h.below hS.below
           obtain ⟨ad2, B1, b1, e2, hcell, hcap, hK⟩ := at_L3 hI.M (k : Int) (by omega) (by omega)
           obtain rfl := Option.some.inj e2
           rw [HX.out] at hcell hcap hK
           rw [Int.toNat_natCast] at hcell
           by_cases hjt : j < x.length
           ·
            obtain ⟨ae, rfl, hce⟩ := Kd.at_int hK (j : Int) (by omega) (by omega)
            rw [Int.toNat_natCast, show rd x (j : Int) = x[j] by simp [rd, hjt]] at hce
            have he := hE.out
            rw [List.drop_eq_getElem_cons hjt, List.map_cons, List.flatten_cons, List.append_assoc] at he
            have hy := hx2 _ (List.getElem_mem hjt)
            have hjl : (j : Int) < (x.length : Int) := by omega
            have hj0 : 0 ≤ (j : Int) := by omega
            generalize x[j] = y at hce he hy
            generalize hR : ((x.drop (j + 1)).map encNum).flatten ++ R = RR at he
            have HRR := hid_ hR; clear hR hE
            have hE := hid_ he; clear he
            obtain ⟨q0, q1, q2, q3, q4, q5, q6⟩ := boxed hS.box
            go_wp2_with (fail)
            clear q0 q1 q2 q3 q4 q5 q6
            have hlen := app_len hE hEl
            refine (refSigned_any wr y hy).mono ?_
            rintro e w1 ⟨vc, rfl, hrc, bc⟩
            obtain ⟨Ac, cc, rfl, kc, rc⟩ := Kd.R_reads hrc
            go_wp2_with ((with_reducible refine gate_builtin (b := .append) (xs := #[.tmp 147, .tmp 156]) rfl ?_); at_builtin; refine hS.append bc rfl (.tmp 147) (.tmp 156) rfl rfl rfl rc hlen ?_; intro v2 w2 hS2 hkeep; obtain ⟨r0, r1, r2, r3, r4, r5, r6⟩ := boxed hS2.box)
            have hE2 := app_next hE
            go_roundw
            case rel => exact ⟨j + 1, _, by omega, by go_num, hS2, by rw [HRR.out]; exact hE2.out⟩
            case measure => simp [intOf]; omega
           ·
            have he : l ++ R = E := by
             have := hE.out
             rw [List.drop_eq_nil_of_le (by omega)] at this
             exact this
            clear hE
            have hge : ¬ (j : Int) < (x.length : Int) := by omega
            obtain ⟨q0, q1, q2, q3, q4, q5, q6⟩ := boxed hS.box
            go_wp2_with (fail)
            go_roundw
            case rel => exact ⟨k + 1, _, by omega, by go_num, hS, by rw [HR.out]; exact he⟩
            case measure => simp [intOf]; omega
         ·
          have he : l ++ R1 = E := by
           have := hE.out
           rw [List.drop_eq_nil_of_le (by omega)] at this
           exact this
          clear hE
          have hE := hid_ he; clear he
          have hge : ¬ (k : Int) < (g.M.length : Int) := by omega
          clear hI hlt
          have hE2 : Hid (l ++ (encCount (g.C.length : Int) ++ (((g.C.map (encInstr)).flatten) ++ [])) = E) := by
           have := hE.out
           rw [HR1.out, ← List.append_nil (encList encInstr g.C)] at this
           unfold encList at this
           rw [List.append_assoc] at this
           exact hid_ this
          clear hE
          have hE := hE2; clear hE2
          obtain ⟨q0, q1, q2, q3, q4, q5, q6⟩ := boxed hS.box
          have hge2 := hge
          go_wp2_with (fail)
          clear q0 q1 q2 q3 q4 q5 q6
          have hlen := app_len hE hEl
          refine (refCount_any wr (g.C.length : Int) (by omega) (by omega)).mono ?_
          rintro e w1 ⟨vc, rfl, hrc, bc⟩
          obtain ⟨Ac, cc, rfl, kc, rc⟩ := Kd.R_reads hrc
          go_wp2_with ((with_reducible refine gate_builtin (b := .append) (xs := #[.tmp 158, .tmp 162]) rfl ?_); at_builtin; refine hS.append bc rfl (.tmp 158) (.tmp 162) rfl rfl rfl rc hlen ?_; intro v2 w2 hS2 hkeep; obtain ⟨r0, r1, r2, r3, r4, r5, r6⟩ := boxed hS2.box)
          have hE2 := app_next hE
          clear hS hE hlen hrc bc rc kc hkeep r0 r1 r2 r3 r4 r5 r6 hge
          have hS := hS2; clear hS2
          have hE := hE2; clear hE2
          generalize l ++ encCount (g.C.length : Int) = l9 at hS hE
          clear hge2
          go_loopw [4, 11] (fun out i wr => ∃ (k : Nat) (l : List Int), k ≤ g.C.length ∧ i = .int .i64 k ∧ StE w wr A0 A1 A2 A3 A4 c0 c1 c2 c3 c4 g out l ∧ l ++ (((g.C.drop k).map encInstr).flatten ++ []) = E) (fun _ i _ => g.C.length - (intOf i).toNat)
          case atStart => exact ⟨0, _, by omega, rfl, hS, by rw [List.drop_zero]; exact hE.out⟩
          case round =>
           clear hS hE
           obtain ⟨k, l, hk, rfl, hS, he⟩ := hrel
           have hE := hid_ he; clear he
           have hI := h.below hS.below
           by_cases hlt : k < g.C.length
           ·
            obtain ⟨ad, rfl, a0, a1, a2, a3⟩ := at_T74 hI.C (k : Int) (by omega) (by omega)
            rw [Int.toNat_natCast, show rd_T74 g.C (k : Int) = g.C[k] by simp [rd_T74, hlt]] at a0 a1 a2 a3
            have he := hE.out
            rw [List.drop_eq_getElem_cons hlt, List.map_cons, List.flatten_cons, List.append_assoc] at he
            have hx := F9 _ (List.getElem_mem hlt)
            have hy := F10 _ (List.getElem_mem hlt)
            have hlk : (k : Int) < (g.C.length : Int) := by omega
            have hk0 : 0 ≤ (k : Int) := by omega
            generalize g.C[k] = x at a0 a1 a2 a3 he hx hy
            generalize hR : ((g.C.drop (k + 1)).map encInstr).flatten ++ [] = R at he
            have HR := hid_ hR; clear hR hE
            rw [encInstr_eq x hy] at he
            obtain ⟨op, n1, n2, n3⟩ := x
            dsimp only at a0 a1 a2 a3 he hx hy
            obtain ⟨hx1, hx2, hx3⟩ := hx
            have hE : Hid (l ++ ([op] ++ (optE (usesV op).1 n1 ++ (optE (usesV op).2.1 n2 ++ (optE (usesV op).2.2 n3 ++ R)))) = E) := hid_ (by rw [← he]; simp)
            clear he
            obtain ⟨q0, q1, q2, q3, q4, q5, q6⟩ := boxed hS.box
            have hS6 := hS.alloc (.cells #[.int .i64 op, .int .i64 n1, .int .i64 n2, .int .i64 n3] 74)
            have hX6 := heap_alloc_new wr (.cells #[.int .i64 op, .int .i64 n1, .int .i64 n2, .int .i64 n3] 74 (0, 0))
            have hS7 := hS6.alloc (.cells #[.int .u8 op] 5)
            have hX7 := (heap_alloc_old _ (.cells #[.int .u8 op] 5) (blk_lt hX6)).trans hX6
            have hn : ((wr.alloc (.cells #[.int .i64 op, .int .i64 n1, .int .i64 n2, .int .i64 n3] 74)).alloc (.cells #[.int .u8 op] 5)).heap[wr.heap.size + 1]? = some (.cells #[.int .u8 op] 5 (0, 0)) := by
             have := heap_alloc_new (wr.alloc (.cells #[.int .i64 op, .int .i64 n1, .int .i64 n2, .int .i64 n3] 74)) (.cells #[.int .u8 op] 5 (0, 0))
             simpa using this
            have rc := C_ints [op] hn (by simp)
            have bc := below_alloc (Below.refl (wr.alloc (.cells #[.int .i64 op, .int .i64 n1, .int .i64 n2, .int .i64 n3] 74)).heap.size (wr.alloc (.cells #[.int .i64 op, .int .i64 n1, .int .i64 n2, .int .i64 n3] 74))) (.cells #[.int .u8 op] 5)
            have hlen := app_len hE hEl
            have hop : op % 256 = op := by omega
            go_wp2_with ((with_reducible refine gate_builtin (b := .append) (xs := #[.tmp 176, .tmp 180]) rfl ?_); at_builtin; refine hS6.append bc rfl (.tmp 176) (.tmp 180) rfl rfl rfl rc hlen ?_; intro v2 w2 hS2 hkeep; have hX2 := (hkeep _ (blk_lt hX7) (Kd.R_ne hS7.row hX7 (by decide))).trans hX7; have x0 : w2.cell? ⟨wr.heap.size, 0, none⟩ = some (.int .i64 op) := (by simp [World.cell?, hX2]))
            have hE2 := app_next hE
            clear hS hS6 hS7 hX6 hX7 hE hlen hn rc bc hkeep q0 q1 q2 q3 q4 q5 q6 a0 a1 a2 a3 hI
            have hS := hS2; clear hS2
            have hE := hE2; clear hE2
            generalize wr.heap.size = X at hX2 x0 ⊢
            refine (uses_any w2 op hy.1 hy.2).mono ?_
            rintro e w3 ⟨rfl, ⟨nd, rfl⟩⟩
            generalize usesV op = u at hE ⊢
            obtain ⟨b1, b2, b3⟩ := u
            dsimp only at hE ⊢
            have hS3 := hS.drewN nd
            have hX3 : (w2.drewN nd).heap[X]? = some (.cells #[.int .i64 op, .int .i64 n1, .int .i64 n2, .int .i64 n3] 74 (0, 0)) := hX2
            clear hS hX2 x0
            have hS := hS3; clear hS3
            have hX := hX3; clear hX3
            generalize w2.drewN nd = W2 at hS hX ⊢
            generalize l ++ [op] = l at hS hE
            cases b1 with
            | false =>
             cases b2 with
             | false =>
              cases b3 with
              | false =>
               have hE2 := hE.out
               rw [show optE false n1 = [] from rfl, show optE false n2 = [] from rfl, show optE false n3 = [] from rfl, List.nil_append, List.nil_append, List.nil_append] at hE2
               clear hE
               have hE := hid_ hE2; clear hE2
               go_wp2_with (fail)
               go_roundw
               case rel => exact ⟨k + 1, _, by omega, by go_num, hS, by rw [HR.out]; exact hE.out⟩
               case measure => simp [intOf]; omega
              | true =>
               have hE2 := hE.out
               rw [show optE false n1 = [] from rfl, show optE false n2 = [] from rfl, show optE true n3 = encCount n3 from rfl, List.nil_append, List.nil_append] at hE2
               clear hE
               have hE := hid_ hE2; clear hE2
               have x3 : W2.cell? ⟨X, 3, none⟩ = some (.int .i64 n3) := by simp [World.cell?, hX]
               go_wp2_with (fail)
               have hlen := app_len hE hEl
               refine (refCount_any W2 n3 hx3.1 (by omega)).mono ?_
               rintro e w1 ⟨vc, rfl, hrc, bc⟩
               obtain ⟨Ac, cc, rfl, kc, rc⟩ := Kd.R_reads hrc
               have hX1 := (bc.block _ (blk_lt hX)).trans hX
               have hne := Kd.R_ne hS.row hX (by decide)
               go_wp2_with ((with_reducible refine gate_builtin (b := .append) (xs := #[.tmp 202, .tmp 205]) rfl ?_); at_builtin; refine hS.append bc rfl (.tmp 202) (.tmp 205) rfl rfl rfl rc hlen ?_; intro v6 w6 hS2 hkeep; have hXn := (hkeep _ (blk_lt hX1) hne).trans hX1)
               have hE2 := app_next hE
               clear hS hE hlen hrc bc rc kc hkeep hX1 hX hne x3
               have hS := hS2; clear hS2
               have hX := hXn; clear hXn
               have hE := hE2; clear hE2
               generalize l ++ encCount n3 = l at hS hE
               go_roundw
               case rel => exact ⟨k + 1, _, by omega, by go_num, hS, by rw [HR.out]; exact hE.out⟩
               case measure => simp [intOf]; omega
             | true =>
              cases b3 with
              | false =>
               have hE2 := hE.out
               rw [show optE false n1 = [] from rfl, show optE true n2 = encCount n2 from rfl, show optE false n3 = [] from rfl, List.nil_append, List.nil_append] at hE2
               clear hE
               have hE := hid_ hE2; clear hE2
               have x2 : W2.cell? ⟨X, 2, none⟩ = some (.int .i64 n2) := by simp [World.cell?, hX]
               go_wp2_with (fail)
               have hlen := app_len hE hEl
               refine (refCount_any W2 n2 hx2.1 (by omega)).mono ?_
               rintro e w1 ⟨vc, rfl, hrc, bc⟩
               obtain ⟨Ac, cc, rfl, kc, rc⟩ := Kd.R_reads hrc
               have hX1 := (bc.block _ (blk_lt hX)).trans hX
               have hne := Kd.R_ne hS.row hX (by decide)
               go_wp2_with ((with_reducible refine gate_builtin (b := .append) (xs := #[.tmp 196, .tmp 199]) rfl ?_); at_builtin; refine hS.append bc rfl (.tmp 196) (.tmp 199) rfl rfl rfl rc hlen ?_; intro v5 w5 hS2 hkeep; have hXn := (hkeep _ (blk_lt hX1) hne).trans hX1)
               have hE2 := app_next hE
               clear hS hE hlen hrc bc rc kc hkeep hX1 hX hne x2
               have hS := hS2; clear hS2
               have hX := hXn; clear hXn
               have hE := hE2; clear hE2
               generalize l ++ encCount n2 = l at hS hE
               go_roundw
               case rel => exact ⟨k + 1, _, by omega, by go_num, hS, by rw [HR.out]; exact hE.out⟩
               case measure => simp [intOf]; omega
              | true =>
               have hE2 := hE.out
               rw [show optE false n1 = [] from rfl, show optE true n2 = encCount n2 from rfl, show optE true n3 = encCount n3 from rfl, List.nil_append] at hE2
               clear hE
               have hE := hid_ hE2; clear hE2
               have x2 : W2.cell? ⟨X, 2, none⟩ = some (.int .i64 n2) := by simp [World.cell?, hX]
               go_wp2_with (fail)
               have hlen := app_len hE hEl
               refine (refCount_any W2 n2 hx2.1 (by omega)).mono ?_
               rintro e w1 ⟨vc, rfl, hrc, bc⟩
               obtain ⟨Ac, cc, rfl, kc, rc⟩ := Kd.R_reads hrc
               have hX1 := (bc.block _ (blk_lt hX)).trans hX
               have hne := Kd.R_ne hS.row hX (by decide)
               go_wp2_with ((with_reducible refine gate_builtin (b := .append) (xs := #[.tmp 196, .tmp 199]) rfl ?_); at_builtin; refine hS.append bc rfl (.tmp 196) (.tmp 199) rfl rfl rfl rc hlen ?_; intro v5 w5 hS2 hkeep; have hXn := (hkeep _ (blk_lt hX1) hne).trans hX1; have x3 : w5.cell? ⟨X, 3, none⟩ = some (.int .i64 n3) := (by simp [World.cell?, hXn]))
               have hE2 := app_next hE
               clear hS hE hlen hrc bc rc kc hkeep hX1 hX hne x2
               have hS := hS2; clear hS2
               have hX := hXn; clear hXn
               have hE := hE2; clear hE2
               generalize l ++ encCount n2 = l at hS hE
               have hlen := app_len hE hEl
               refine (refCount_any w5 n3 hx3.1 (by omega)).mono ?_
               rintro e w1 ⟨vc, rfl, hrc, bc⟩
               obtain ⟨Ac, cc, rfl, kc, rc⟩ := Kd.R_reads hrc
               have hX1 := (bc.block _ (blk_lt hX)).trans hX
               have hne := Kd.R_ne hS.row hX (by decide)
               go_wp2_with ((with_reducible refine gate_builtin (b := .append) (xs := #[.tmp 202, .tmp 205]) rfl ?_); at_builtin; refine hS.append bc rfl (.tmp 202) (.tmp 205) rfl rfl rfl rc hlen ?_; intro v6 w6 hS2 hkeep; have hXn := (hkeep _ (blk_lt hX1) hne).trans hX1)
               have hE2 := app_next hE
               clear hS hE hlen hrc bc rc kc hkeep hX1 hX hne x3
               have hS := hS2; clear hS2
               have hX := hXn; clear hXn
               have hE := hE2; clear hE2
               generalize l ++ encCount n3 = l at hS hE
               go_roundw
               case rel => exact ⟨k + 1, _, by omega, by go_num, hS, by rw [HR.out]; exact hE.out⟩
               case measure => simp [intOf]; omega
            | true =>
             cases b2 with
             | false =>
              cases b3 with
              | false =>
               have hE2 := hE.out
               rw [show optE true n1 = encCount n1 from rfl, show optE false n2 = [] from rfl, show optE false n3 = [] from rfl, List.nil_append, List.nil_append] at hE2
               clear hE
               have hE := hid_ hE2; clear hE2
               have x1 : W2.cell? ⟨X, 1, none⟩ = some (.int .i64 n1) := by simp [World.cell?, hX]
               go_wp2_with (fail)
               have hlen := app_len hE hEl
               refine (refCount_any W2 n1 hx1.1 (by omega)).mono ?_
               rintro e w1 ⟨vc, rfl, hrc, bc⟩
               obtain ⟨Ac, cc, rfl, kc, rc⟩ := Kd.R_reads hrc
               have hX1 := (bc.block _ (blk_lt hX)).trans hX
               have hne := Kd.R_ne hS.row hX (by decide)
               go_wp2_with ((with_reducible refine gate_builtin (b := .append) (xs := #[.tmp 190, .tmp 193]) rfl ?_); at_builtin; refine hS.append bc rfl (.tmp 190) (.tmp 193) rfl rfl rfl rc hlen ?_; intro v4 w4 hS2 hkeep; have hXn := (hkeep _ (blk_lt hX1) hne).trans hX1)
               have hE2 := app_next hE
               clear hS hE hlen hrc bc rc kc hkeep hX1 hX hne x1
               have hS := hS2; clear hS2
               have hX := hXn; clear hXn
               have hE := hE2; clear hE2
               generalize l ++ encCount n1 = l at hS hE
               go_roundw
               case rel => exact ⟨k + 1, _, by omega, by go_num, hS, by rw [HR.out]; exact hE.out⟩
               case measure => simp [intOf]; omega
              | true =>
               have hE2 := hE.out
               rw [show optE true n1 = encCount n1 from rfl, show optE false n2 = [] from rfl, show optE true n3 = encCount n3 from rfl, List.nil_append] at hE2
               clear hE
               have hE := hid_ hE2; clear hE2
               have x1 : W2.cell? ⟨X, 1, none⟩ = some (.int .i64 n1) := by simp [World.cell?, hX]
               go_wp2_with (fail)
               have hlen := app_len hE hEl
               refine (refCount_any W2 n1 hx1.1 (by omega)).mono ?_
               rintro e w1 ⟨vc, rfl, hrc, bc⟩
               obtain ⟨Ac, cc, rfl, kc, rc⟩ := Kd.R_reads hrc
               have hX1 := (bc.block _ (blk_lt hX)).trans hX
               have hne := Kd.R_ne hS.row hX (by decide)
               go_wp2_with ((with_reducible refine gate_builtin (b := .append) (xs := #[.tmp 190, .tmp 193]) rfl ?_); at_builtin; refine hS.append bc rfl (.tmp 190) (.tmp 193) rfl rfl rfl rc hlen ?_; intro v4 w4 hS2 hkeep; have hXn := (hkeep _ (blk_lt hX1) hne).trans hX1; have x3 : w4.cell? ⟨X, 3, none⟩ = some (.int .i64 n3) := (by simp [World.cell?, hXn]))
               have hE2 := app_next hE
               clear hS hE hlen hrc bc rc kc hkeep hX1 hX hne x1
               have hS := hS2; clear hS2
               have hX := hXn; clear hXn
               have hE := hE2; clear hE2
               generalize l ++ encCount n1 = l at hS hE
               have hlen := app_len hE hEl
               refine (refCount_any w4 n3 hx3.1 (by omega)).mono ?_
               rintro e w1 ⟨vc, rfl, hrc, bc⟩
               obtain ⟨Ac, cc, rfl, kc, rc⟩ := Kd.R_reads hrc
               have hX1 := (bc.block _ (blk_lt hX)).trans hX
               have hne := Kd.R_ne hS.row hX (by decide)
               go_wp2_with ((with_reducible refine gate_builtin (b := .append) (xs := #[.tmp 202, .tmp 205]) rfl ?_); at_builtin; refine hS.append bc rfl (.tmp 202) (.tmp 205) rfl rfl rfl rc hlen ?_; intro v6 w6 hS2 hkeep; have hXn := (hkeep _ (blk_lt hX1) hne).trans hX1)
               have hE2 := app_next hE
               clear hS hE hlen hrc bc rc kc hkeep hX1 hX hne x3
               have hS := hS2; clear hS2
               have hX := hXn; clear hXn
               have hE := hE2; clear hE2
               generalize l ++ encCount n3 = l at hS hE
               go_roundw
               case rel => exact ⟨k + 1, _, by omega, by go_num, hS, by rw [HR.out]; exact hE.out⟩
               case measure => simp [intOf]; omega
             | true =>
              cases b3 with
              | false =>
               have hE2 := hE.out
               rw [show optE true n1 = encCount n1 from rfl, show optE true n2 = encCount n2 from rfl, show optE false n3 = [] from rfl, List.nil_append] at hE2
               clear hE
               have hE := hid_ hE2; clear hE2
               have x1 : W2.cell? ⟨X, 1, none⟩ = some (.int .i64 n1) := by simp [World.cell?, hX]
               go_wp2_with (fail)
               have hlen := app_len hE hEl
               refine (refCount_any W2 n1 hx1.1 (by omega)).mono ?_
               rintro e w1 ⟨vc, rfl, hrc, bc⟩
               obtain ⟨Ac, cc, rfl, kc, rc⟩ := Kd.R_reads hrc
               have hX1 := (bc.block _ (blk_lt hX)).trans hX
               have hne := Kd.R_ne hS.row hX (by decide)
               go_wp2_with ((with_reducible refine gate_builtin (b := .append) (xs := #[.tmp 190, .tmp 193]) rfl ?_); at_builtin; refine hS.append bc rfl (.tmp 190) (.tmp 193) rfl rfl rfl rc hlen ?_; intro v4 w4 hS2 hkeep; have hXn := (hkeep _ (blk_lt hX1) hne).trans hX1; have x2 : w4.cell? ⟨X, 2, none⟩ = some (.int .i64 n2) := (by simp [World.cell?, hXn]))
               have hE2 := app_next hE
               clear hS hE hlen hrc bc rc kc hkeep hX1 hX hne x1
               have hS := hS2; clear hS2
               have hX := hXn; clear hXn
               have hE := hE2; clear hE2
               generalize l ++ encCount n1 = l at hS hE
               have hlen := app_len hE hEl
               refine (refCount_any w4 n2 hx2.1 (by omega)).mono ?_
               rintro e w1 ⟨vc, rfl, hrc, bc⟩
               obtain ⟨Ac, cc, rfl, kc, rc⟩ := Kd.R_reads hrc
               have hX1 := (bc.block _ (blk_lt hX)).trans hX
               have hne := Kd.R_ne hS.row hX (by decide)
               go_wp2_with ((with_reducible refine gate_builtin (b := .append) (xs := #[.tmp 196, .tmp 199]) rfl ?_); at_builtin; refine hS.append bc rfl (.tmp 196) (.tmp 199) rfl rfl rfl rc hlen ?_; intro v5 w5 hS2 hkeep; have hXn := (hkeep _ (blk_lt hX1) hne).trans hX1)
               have hE2 := app_next hE
               clear hS hE hlen hrc bc rc kc hkeep hX1 hX hne x2
               have hS := hS2; clear hS2
               have hX := hXn; clear hXn
               have hE := hE2; clear hE2
               generalize l ++ encCount n2 = l at hS hE
               go_roundw
               case rel => exact ⟨k + 1, _, by omega, by go_num, hS, by rw [HR.out]; exact hE.out⟩
               case measure => simp [intOf]; omega
              | true =>
               have hE2 := hE.out
               rw [show optE true n1 = encCount n1 from rfl, show optE true n2 = encCount n2 from rfl, show optE true n3 = encCount n3 from rfl] at hE2
               clear hE
               have hE := hid_ hE2; clear hE2
               have x1 : W2.cell? ⟨X, 1, none⟩ = some (.int .i64 n1) := by simp [World.cell?, hX]
               go_wp2_with (fail)
               have hlen := app_len hE hEl
               refine (refCount_any W2 n1 hx1.1 (by omega)).mono ?_
               rintro e w1 ⟨vc, rfl, hrc, bc⟩
               obtain ⟨Ac, cc, rfl, kc, rc⟩ := Kd.R_reads hrc
               have hX1 := (bc.block _ (blk_lt hX)).trans hX
               have hne := Kd.R_ne hS.row hX (by decide)
               go_wp2_with ((with_reducible refine gate_builtin (b := .append) (xs := #[.tmp 190, .tmp 193]) rfl ?_); at_builtin; refine hS.append bc rfl (.tmp 190) (.tmp 193) rfl rfl rfl rc hlen ?_; intro v4 w4 hS2 hkeep; have hXn := (hkeep _ (blk_lt hX1) hne).trans hX1; have x2 : w4.cell? ⟨X, 2, none⟩ = some (.int .i64 n2) := (by simp [World.cell?, hXn]))
               have hE2 := app_next hE
               clear hS hE hlen hrc bc rc kc hkeep hX1 hX hne x1
               have hS := hS2; clear hS2
               have hX := hXn; clear hXn
               have hE := hE2; clear hE2
               generalize l ++ encCount n1 = l at hS hE
               have hlen := app_len hE hEl
               refine (refCount_any w4 n2 hx2.1 (by omega)).mono ?_
               rintro e w1 ⟨vc, rfl, hrc, bc⟩
               obtain ⟨Ac, cc, rfl, kc, rc⟩ := Kd.R_reads hrc
               have hX1 := (bc.block _ (blk_lt hX)).trans hX
               have hne := Kd.R_ne hS.row hX (by decide)
               go_wp2_with ((with_reducible refine gate_builtin (b := .append) (xs := #[.tmp 196, .tmp 199]) rfl ?_); at_builtin; refine hS.append bc rfl (.tmp 196) (.tmp 199) rfl rfl rfl rc hlen ?_; intro v5 w5 hS2 hkeep; have hXn := (hkeep _ (blk_lt hX1) hne).trans hX1; have x3 : w5.cell? ⟨X, 3, none⟩ = some (.int .i64 n3) := (by simp [World.cell?, hXn]))
               have hE2 := app_next hE
               clear hS hE hlen hrc bc rc kc hkeep hX1 hX hne x2
               have hS := hS2; clear hS2
               have hX := hXn; clear hXn
               have hE := hE2; clear hE2
               generalize l ++ encCount n2 = l at hS hE
               have hlen := app_len hE hEl
               refine (refCount_any w5 n3 hx3.1 (by omega)).mono ?_
               rintro e w1 ⟨vc, rfl, hrc, bc⟩
               obtain ⟨Ac, cc, rfl, kc, rc⟩ := Kd.R_reads hrc
               have hX1 := (bc.block _ (blk_lt hX)).trans hX
               have hne := Kd.R_ne hS.row hX (by decide)
               go_wp2_with ((with_reducible refine gate_builtin (b := .append) (xs := #[.tmp 202, .tmp 205]) rfl ?_); at_builtin; refine hS.append bc rfl (.tmp 202) (.tmp 205) rfl rfl rfl rc hlen ?_; intro v6 w6 hS2 hkeep; have hXn := (hkeep _ (blk_lt hX1) hne).trans hX1)
               have hE2 := app_next hE
               clear hS hE hlen hrc bc rc kc hkeep hX1 hX hne x3
               have hS := hS2; clear hS2
               have hX := hXn; clear hXn
               have hE := hE2; clear hE2
               generalize l ++ encCount n3 = l at hS hE
               go_roundw
               case rel => exact ⟨k + 1, _, by omega, by go_num, hS, by rw [HR.out]; exact hE.out⟩
               case measure => simp [intOf]; omega
           ·
            have he : l = E := by
             have := hE.out
             rw [List.drop_eq_nil_of_le (by omega)] at this
             simpa using this
            subst he
            clear hE
            have hge : ¬ (k : Int) < (g.C.length : Int) := by omega
            obtain ⟨q0, q1, q2, q3, q4, q5, q6⟩ := boxed hS.box
            go_wp2_with (fail)
            go_ret2
            exact ⟨⟨_, rfl, Kd.R_mono hS.row (fun _ _ => trivial)⟩, hS.below⟩
end Go.Proofs.Ytlocnfkkfpfpfaa.D
