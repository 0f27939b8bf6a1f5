/- The reference's reader: texts. -/
import Derived.Test.YtlocnfkkfpfpfaazCDm34
namespace Go.Proofs.Ytlocnfkkfpfpfaa.D
open Go.RowKit Go.Proofs.YtlocnfkkfpfpfaaW.PrintWords Go.Proofs.YtlocnfkkfpfpfaaW.PrintLast Go.Proofs.YtlocnfkkfpfpfaaW.PrintMore Go.Proofs.Ytlocnfkkfpfpfaa.Six
set_option linter.unusedSimpArgs false
set_option linter.unusedVariables false
set_option linter.unusedSectionVars false
theorem own_emptyS (W : World) (g : Nat) (hg : g < W.heap.size) : Kd.string.R 9 (W.alloc (.cells #[] 9)) W.heap.size (fun k => k ≠ g) (.slice (some ⟨W.heap.size, 0, none⟩) 0 0) [] := by
  have h := World.ownsRow_lit (base := W.heap.size) (e := 9) (size := 1) W #[] 0 (Nat.le_refl _) (by simp [maxLen]) (by simp)
  exact ⟨fun k hk => by (have h2 : W.heap.size = k := by simpa [Value.ownBlock] using hk); omega, [], (show (W.alloc (.cells #[] 9)).ownsRow W.heap.size 9 1 _ 0 [] from by simpa using h), Kd.reps_scalar (enc := Value.string) []⟩
structure StL {α : Type} (d : Kd α) (t : Nat) (w0 w wr : World) (g : Nat) (bs : List Int) (p k b : Int) (n j : Nat) (F : Except (Int × Int) (List α × Int)) (L : Nat → Int → List α → Except (Int × Int) (List α × Int)) (out : Value) (acc : List α) (p2 k2 b2 : Int) : Prop where
  le : j ≤ n
  len : acc.length = j
  row : d.R t wr w.heap.size (fun k => k ≠ g) out acc
  rd : IsS85 w0 wr g bs p2 k2 b2
  below : Below w0.heap.size w0 wr
  keep : KeepBut w wr g none
  good : k2 = 0 → k = 0 ∧ 0 ≤ p2 ∧ p2 ≤ bs.length ∧ b2 = b ∧ L (n - j) p2 acc = F
  bad : k2 ≠ 0 → (k = 0 ∧ F = .error (k2, b2)) ∨ (k ≠ 0 ∧ p2 = p ∧ k2 = k ∧ b2 = b)
theorem StL.after {α : Type} {d : Kd α} {t : Nat} {w0 w wr w3 w4 : World} {g : Nat} {bs : List Int} {p k b : Int} {n j : Nat} {F : Except (Int × Int) (List α × Int)} {L : Nat → Int → List α → Except (Int × Int) (List α × Int)} {out : Value} {acc : List α} {p2 k2 b2 p3 k3 b3 : Int}
    (hS : StL d t w0 w wr g bs p k b n j F L out acc p2 k2 b2) (hw : w0.heap.size ≤ w.heap.size) (hK : KeepBut wr w3 g none) (hI : IsS85 w0 w3 g bs p3 k3 b3) (hB : Below w0.heap.size w0 w3) (hg : w3.grownBy w4 out.ownBlock) :
    IsS85 w0 w4 g bs p3 k3 b3 ∧ Below w0.heap.size w0 w4 ∧ KeepBut w w4 g none := by
  have hsz := hS.keep.1
  have hb := Kd.R_base hS.row
  refine ⟨hI.grown hg (fun e => hS.row.1 g e.symm rfl), hB.grown hg (by have := hK.1; omega) (fun k hk => by have := hb k hk; omega), ?_⟩
  refine ⟨by have := hg.size; have := hK.1; omega, fun k hk h1 h2 => ?_⟩
  rw [hg.block k (by have := hK.1; omega) (fun e => by have := hb k e.symm; omega)]
  exact (KeepBut.trans' hS.keep hK).2 k hk h1 h2
set_option maxHeartbeats 8000000 in
set_option maxRecDepth 100000 in
theorem rTextsN (bs : List Int) (hb : Bytes bs) (hlen : bs.length ≤ 200000000000000) (w0 w : World) (g : Nat) (p k b : Int) (hI : IsS85 w0 w g bs p k b) (hB : Below w0.heap.size w0 w) (h : k = 0 → 0 ≤ p ∧ p ≤ bs.length) (n : Nat) (hn : n ≤ 5000) :
 Calls Try.prog 43 #[.pointer (some ⟨g, 0, none⟩), .int .i64 n] w (Leaves w0 w g bs p k b (listL ByteArray.empty (textF bs) cmpS n p []) (fun x v w' => Kd.string.R 9 w' w.heap.size (fun _ => True) v x ∧ x.length ≤ n)) := by
 have hgl := hI.lt
 have hw := hB.size
 go_enter Try.func43, Try.ntmps43
 go_wp2_with (fail)
 generalize hF : listL ByteArray.empty (textF bs) cmpS n p [] = F
 have HF := hid_ hF; clear hF
 have hS0 : StL Kd.string 9 w0 w (w.alloc (.cells #[] 9)) g bs p k b n 0 F (listL ByteArray.empty (textF bs) cmpS) (.slice (some ⟨w.heap.size, 0, none⟩) 0 0) [] p k b :=
  ⟨Nat.zero_le _, rfl, own_emptyS w g hgl, hI.alloc _, below_alloc hB _, ⟨by simp, fun k hk _ _ => heap_alloc_old w _ hk⟩, fun hk => ⟨hk, (h hk).1, (h hk).2, rfl, HF.out⟩, fun hk => .inr ⟨hk, rfl, rfl, rfl⟩⟩
 clear hI hB
 go_loopw [5, 6] (fun out i wr => ∃ (j : Nat) (acc : List ByteArray) (p2 k2 b2 : Int), i = .int .i64 j ∧ StL Kd.string 9 w0 w wr g bs p k b n j F (listL ByteArray.empty (textF bs) cmpS) out acc p2 k2 b2) (fun _ i _ => n - (intOf i).toNat)
 case atStart => exact ⟨0, [], p, k, b, rfl, hS0⟩
 case round =>
  clear hS0
  obtain ⟨j, acc, p2, k2, b2, rfl, hS⟩ := hrel
  obtain ⟨A, c, q0, q1, q2, q3, z, hc, hC⟩ := s85_cells hS.rd
  have hle := hS.le
  by_cases hgo : j < n ∧ k2 = 0
  ·
   obtain ⟨hjn, rfl⟩ := hgo
   have d0 : ((j : Int) < (n : Int)) := by omega
   obtain ⟨rfl, hp0, hp1, rfl, hL⟩ := hS.good rfl
   have HT := rText bs hb hlen w0 wr g p2 0 b2 hS.rd hS.below (fun _ => ⟨hp0, hp1⟩)
   go_wp2_with (fail)
   refine HT.mono ?_
   rintro e w3 ⟨v, x, p3, k3, b3, rfl, rfl, hI3, hB3, hK3, hs3, _⟩
   have hs4 := hs3 rfl
   clear hs3 HT q0 q1 q2 q3 z hc hC
   have hrow := Kd.R_keep hS.row hK3 (fun _ h => h)
   have hsz3 : w.heap.size ≤ w3.heap.size := Nat.le_trans hS.keep.1 hK3.1
   have hgl3 := hI3.lt
   have hl5 : (acc.length + 1) * 16 ≤ 140737488355328 := by have := hS.len; omega
   obtain ⟨A, c, q0, q1, q2, q3, z, hc, hC⟩ := s85_cells hI3
   have hLs : n - j = (n - j - 1) + 1 := by omega
   rw [hLs] at hL
   unfold listL at hL
   cases ht : textF bs p2 with
   | error f =>
    obtain ⟨kk, q⟩ := f
    rw [ht] at hs4 hL
    obtain ⟨rfl, rfl⟩ := hs4
    have h200 := (textF_tame bs p2 hp0 hp1).1 _ _ ht
    have hk3 : (k3 == 0) = false := by rw [beq_eq_false_iff_ne]; omega
    have HL := hid_ hL
    clear hL ht
    have fin : ∀ out2 w5, Kd.string.R 9 w5 w.heap.size (fun k => k ≠ g) out2 (acc ++ [x]) → w3.grownBy w5 u5.ownBlock → StL Kd.string 9 w0 w w5 g bs p 0 b2 n (j + 1) F (listL ByteArray.empty (textF bs) cmpS) out2 (acc ++ [x]) p3 k3 b3 := fun out2 w5 hr hg => by
     obtain ⟨i1, i2, i3⟩ := hS.after hw hK3 hI3 hB3 hg
     exact ⟨by omega, by rw [List.length_append, hS.len]; rfl, hr, i1, i2, i3, fun h => by omega, fun _ => .inl ⟨rfl, HL.out.symm⟩⟩
    by_cases hj : 0 < j
    ·
     have d1 : decide ((0 : Int) < (j : Int)) = true := decide_eq_true (by omega)
     have d2 : decide (0 < j) = true := decide_eq_true hj
     clear hj
     go_wp2_with (((with_reducible refine gate_builtin (b := .append) (xs := #[.tmp 49, .tmp 51]) rfl ?_); at_builtin; refine Kd.R_append Kd.string (w0 := w3) w.heap.size rfl (.tmp 49) (.tmp 51) 26 9 (.string ⟨#[]⟩) 16 rfl Try.underlying26 info9 rfl (by decide) (by omega) u5 acc x [.string x] (fun k => k ≠ g) (fun _ => False) rfl rfl rfl (fun _ hk => hk.elim) (fun k hk => by omega) hrow (Below.refl _ _) hsz3 hl5 ?_; intro out2 w5 hrow5 hb5 hg5 _))
     go_roundw
     case rel => exact ⟨j + 1, _, p3, k3, b3, by go_num, fin _ _ hrow5 hg5⟩
     case measure => simp [intOf]; omega
    ·
     have d1 : decide ((0 : Int) < (j : Int)) = false := decide_eq_false (by omega)
     have d2 : decide (0 < j) = false := decide_eq_false hj
     clear hj
     go_wp2_with (((with_reducible refine gate_builtin (b := .append) (xs := #[.tmp 49, .tmp 51]) rfl ?_); at_builtin; refine Kd.R_append Kd.string (w0 := w3) w.heap.size rfl (.tmp 49) (.tmp 51) 26 9 (.string ⟨#[]⟩) 16 rfl Try.underlying26 info9 rfl (by decide) (by omega) u5 acc x [.string x] (fun k => k ≠ g) (fun _ => False) rfl rfl rfl (fun _ hk => hk.elim) (fun k hk => by omega) hrow (Below.refl _ _) hsz3 hl5 ?_; intro out2 w5 hrow5 hb5 hg5 _))
     go_roundw
     case rel => exact ⟨j + 1, _, p3, k3, b3, by go_num, fin _ _ hrow5 hg5⟩
     case measure => simp [intOf]; omega
   | ok y =>
    obtain ⟨y, q⟩ := y
    rw [ht] at hs4 hL
    obtain ⟨rfl, rfl, rfl, rfl⟩ := hs4
    have h200 := (textF_tame bs p2 hp0 hp1).2 _ _ ht
    dsimp only at hL
    have HL := hid_ hL
    clear hL ht
    have fin : (∀ hh : 0 < acc.length, ¬ 0 ≤ cmpS (acc.getD (acc.length - 1) ByteArray.empty) x) → ∀ out2 w5, Kd.string.R 9 w5 w.heap.size (fun k => k ≠ g) out2 (acc ++ [x]) → w3.grownBy w5 u5.ownBlock → StL Kd.string 9 w0 w w5 g bs p 0 b3 n (j + 1) F (listL ByteArray.empty (textF bs) cmpS) out2 (acc ++ [x]) p3 0 b3 := fun hh out2 w5 hr hg => by
     obtain ⟨i1, i2, i3⟩ := hS.after hw hK3 hI3 hB3 hg
     refine ⟨by omega, by rw [List.length_append, hS.len]; rfl, hr, i1, i2, i3, fun _ => ⟨rfl, by omega, by omega, rfl, ?_⟩, fun h => absurd rfl h⟩
     have := HL.out
     rw [if_neg (fun h => hh h.1 h.2)] at this
     rw [show n - (j + 1) = n - j - 1 by omega]
     exact this
    by_cases hj : 0 < j
    ·
     have d1 : decide ((0 : Int) < (j : Int)) = true := decide_eq_true (by omega)
     have d2 : decide (0 < j) = true := decide_eq_true hj
     obtain ⟨Ao, co, hAo, hco, hCo⟩ := Kd.R_reads hrow
     subst hAo
     have hal := hS.len
     obtain ⟨ad, rfl, hcell⟩ := Kd.at_string hCo ((j - 1 : Nat) : Int) (by omega) (by omega)
     rw [Int.toNat_natCast, show rdOf ByteArray.empty acc ((j - 1 : Nat) : Int) = acc.getD (acc.length - 1) ByteArray.empty by unfold rdOf; rw [Int.toNat_natCast, hal]] at hcell
     generalize hy : acc.getD (acc.length - 1) ByteArray.empty = y at hcell
     obtain ⟨i, hij⟩ : ∃ i : Nat, i = j - 1 := ⟨_, rfl⟩
     rw [← hij] at hcell
     have di0 : 0 ≤ (i : Int) := by omega
     have di1 : (i : Int) < (acc.length : Int) := by omega
     have ei : wrap64 ((j : Int) - 1) = (i : Int) := by rw [hij]; exact wrap_prevN j hj (by omega)
     have ej : (j : Int) - 1 = (i : Int) := by omega
     clear hij hal
     cases hcmp : Op.bytesLess y.toList x.toList with
     | true =>
      have hn0 : ¬ 0 ≤ cmpS y x := by unfold cmpS; rw [if_pos hcmp]; decide
      have fin2 := fin (fun _ => by rw [hy]; exact hn0)
      have hf1 : Op.bytesLess x.toList y.toList = false := by
       have := Go.Proofs.YtlocnfkkfpfpfaaX.bl_total x.toList y.toList
       rw [hcmp, Bool.not_true, Bool.or_eq_false_iff] at this
       exact this.1
      have hf2 : (x.toList == y.toList) = false := by
       have := Go.Proofs.YtlocnfkkfpfpfaaX.bl_total x.toList y.toList
       rw [hcmp, Bool.not_true, Bool.or_eq_false_iff] at this
       exact this.2
      have hf3 : ¬ x = y := fun e => by rw [e] at hf2; simp at hf2
      clear fin hn0 hj hy HL
      go_wp2_with (((with_reducible refine gate_builtin (b := .append) (xs := #[.tmp 49, .tmp 51]) rfl ?_); at_builtin; refine Kd.R_append Kd.string (w0 := w3) w.heap.size rfl (.tmp 49) (.tmp 51) 26 9 (.string ⟨#[]⟩) 16 rfl Try.underlying26 info9 rfl (by decide) (by omega) _ acc x [.string x] (fun k => k ≠ g) (fun _ => False) rfl rfl rfl (fun _ hk => hk.elim) (fun k hk => by omega) hrow (Below.refl _ _) hsz3 hl5 ?_; intro out2 w5 hrow5 hb5 hg5 _))
      go_roundw
      case rel => exact ⟨j + 1, _, p3, 0, b3, by go_num, fin2 _ _ hrow5 hg5⟩
      case measure => simp [intOf]; omega
     | false =>
      have hn0 : 0 ≤ cmpS y x := by unfold cmpS; rw [hcmp, if_neg (by decide)]; split <;> decide
      have HL2 : Hid (F = .error (204, p2)) := by
       have := HL.out
       rw [hy, if_pos ⟨by have := hS.len; omega, hn0⟩] at this
       exact hid_ this.symm
      clear fin hn0 hj hy HL
      have htot := Go.Proofs.YtlocnfkkfpfpfaaX.bl_total x.toList y.toList
      rw [hcmp, Bool.not_false] at htot
      cases hf1 : Op.bytesLess x.toList y.toList with
      | true =>
       clear htot
       have HFl := rFail bs w0 w3 g p3 0 b3 204 p2 hI3 hB3
       go_wp2_with (first
        | ((with_reducible refine HFl.mono ?_); rintro e w4 ⟨rfl, hI4, hB4, hK4⟩; (have hrow4 := Kd.R_keep hrow hK4 (fun _ h => h)); (have hsz4 : w.heap.size ≤ w4.heap.size := Nat.le_trans hsz3 hK4.1); (have hgl4 := Nat.lt_of_lt_of_le hgl3 hK4.1))
        | ((with_reducible refine gate_builtin (b := .append) (xs := #[.tmp 49, .tmp 51]) rfl ?_); at_builtin; refine Kd.R_append Kd.string (w0 := w4) w.heap.size rfl (.tmp 49) (.tmp 51) 26 9 (.string ⟨#[]⟩) 16 rfl Try.underlying26 info9 rfl (by decide) (by omega) _ acc x [.string x] (fun k => k ≠ g) (fun _ => False) rfl rfl rfl (fun _ hk => hk.elim) (fun k hk => by omega) hrow4 (Below.refl _ _) hsz4 hl5 ?_; intro out2 w5 hrow5 hb5 hg5 _))
       rw [if_pos trivial] at hI4
       obtain ⟨i1, i2, i3⟩ := hS.after hw (KeepBut.trans' hK3 hK4) hI4 hB4 hg5
       go_roundw
       case rel => exact ⟨j + 1, _, p3, 204, p2, by go_num, by omega, by rw [List.length_append, hS.len]; rfl, hrow5, i1, i2, i3, fun h => absurd h (by decide), fun _ => .inl ⟨rfl, HL2.out⟩⟩
       case measure => simp [intOf]; omega
      | false =>
       have hf2 : (x.toList == y.toList) = true := by rw [hf1, Bool.false_or] at htot; exact htot
       clear htot
       have HFl := rFail bs w0 w3 g p3 0 b3 204 p2 hI3 hB3
       go_wp2_with (first
        | ((with_reducible refine HFl.mono ?_); rintro e w4 ⟨rfl, hI4, hB4, hK4⟩; (have hrow4 := Kd.R_keep hrow hK4 (fun _ h => h)); (have hsz4 : w.heap.size ≤ w4.heap.size := Nat.le_trans hsz3 hK4.1); (have hgl4 := Nat.lt_of_lt_of_le hgl3 hK4.1))
        | ((with_reducible refine gate_builtin (b := .append) (xs := #[.tmp 49, .tmp 51]) rfl ?_); at_builtin; refine Kd.R_append Kd.string (w0 := w4) w.heap.size rfl (.tmp 49) (.tmp 51) 26 9 (.string ⟨#[]⟩) 16 rfl Try.underlying26 info9 rfl (by decide) (by omega) _ acc x [.string x] (fun k => k ≠ g) (fun _ => False) rfl rfl rfl (fun _ hk => hk.elim) (fun k hk => by omega) hrow4 (Below.refl _ _) hsz4 hl5 ?_; intro out2 w5 hrow5 hb5 hg5 _))
       rw [if_pos trivial] at hI4
       obtain ⟨i1, i2, i3⟩ := hS.after hw (KeepBut.trans' hK3 hK4) hI4 hB4 hg5
       go_roundw
       case rel => exact ⟨j + 1, _, p3, 204, p2, by go_num, by omega, by rw [List.length_append, hS.len]; rfl, hrow5, i1, i2, i3, fun h => absurd h (by decide), fun _ => .inl ⟨rfl, HL2.out⟩⟩
       case measure => simp [intOf]; omega
    ·
     have d1 : decide ((0 : Int) < (j : Int)) = false := decide_eq_false (by omega)
     have d2 : decide (0 < j) = false := decide_eq_false hj
     have hal := hS.len
     have fin2 := fin (fun hh => absurd (show 0 < j by omega) hj)
     clear hj hal fin
     go_wp2_with (((with_reducible refine gate_builtin (b := .append) (xs := #[.tmp 49, .tmp 51]) rfl ?_); at_builtin; refine Kd.R_append Kd.string (w0 := w3) w.heap.size rfl (.tmp 49) (.tmp 51) 26 9 (.string ⟨#[]⟩) 16 rfl Try.underlying26 info9 rfl (by decide) (by omega) u5 acc x [.string x] (fun k => k ≠ g) (fun _ => False) rfl rfl rfl (fun _ hk => hk.elim) (fun k hk => by omega) hrow (Below.refl _ _) hsz3 hl5 ?_; intro out2 w5 hrow5 hb5 hg5 _))
     go_roundw
     case rel => exact ⟨j + 1, _, p3, 0, b3, by go_num, fin2 _ _ hrow5 hg5⟩
     case measure => simp [intOf]; omega
  ·
   have hout : Stk p k b F acc p2 k2 b2 := ⟨fun hk => (by
    by_cases hk2 : k2 = 0
    ·
     obtain ⟨_, _, _, e, hL⟩ := hS.good hk2
     have hj : j = n := (by
      by_cases hjn : j < n
      ·
       exact absurd ⟨hjn, hk2⟩ hgo
      ·
       omega)
     rw [hj, Nat.sub_self] at hL
     rw [← hL]
     exact ⟨rfl, rfl, hk2, e⟩
    ·
     rcases hS.bad hk2 with ⟨_, e⟩ | ⟨e, _⟩
     ·
      rw [e]; exact ⟨rfl, rfl⟩
     ·
      exact absurd hk e), fun hk => (by
    by_cases hk2 : k2 = 0
    ·
     exact absurd (hS.good hk2).1 hk
    ·
     rcases hS.bad hk2 with ⟨e, _⟩ | ⟨_, e⟩
     ·
      exact absurd e hk
     ·
      exact e)⟩
   by_cases hjn : (j : Int) < (n : Int)
   ·
    have hk2 : (k2 == 0) = false := by rw [beq_eq_false_iff_ne]; intro e; exact hgo ⟨by omega, e⟩
    go_wp2_with (fail)
    go_ret
    exact ⟨_, acc, p2, k2, b2, rfl, ⟨Kd.R_mono hS.row (fun _ _ => trivial), by rw [hS.len]; exact hS.le⟩, hS.rd, hS.below, hS.keep, by rw [HF.out]; exact hout⟩
   ·
    go_wp2_with (fail)
    go_ret
    exact ⟨_, acc, p2, k2, b2, rfl, ⟨Kd.R_mono hS.row (fun _ _ => trivial), by rw [hS.len]; exact hS.le⟩, hS.rd, hS.below, hS.keep, by rw [HF.out]; exact hout⟩
theorem rTexts (bs : List Int) (hb : Bytes bs) (hlen : bs.length ≤ 200000000000000) (w0 w : World) (g : Nat) (p k b : Int) (hI : IsS85 w0 w g bs p k b) (hB : Below w0.heap.size w0 w) (h : k = 0 → 0 ≤ p ∧ p ≤ bs.length) (n : Nat) (hn : n ≤ 5000) :
 Calls Try.prog 43 #[.pointer (some ⟨g, 0, none⟩), .int .i64 n] w (Leaves w0 w g bs p k b (listL ByteArray.empty (textF bs) cmpS n p []) (fun x v w' => Kd.string.R 9 w' w.heap.size (fun _ => True) v x)) := by
 refine (rTextsN bs hb hlen w0 w g p k b hI hB h n hn).mono ?_
 rintro e w' ⟨v, x, p2, k2, b2, rfl, hv, hr⟩
 exact ⟨v, x, p2, k2, b2, rfl, hv.1, hr⟩
end Go.Proofs.Ytlocnfkkfpfpfaa.D
