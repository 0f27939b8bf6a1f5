/- The plain side: lists there and back. -/
import Derived.Test.YtlocnfkkfpfpfaazCDm16
namespace Go.Proofs.Ytlocnfkkfpfpfaa.D
open Go.RowKit Go.Proofs.YtlocnfkkfpfpfaaW.PrintWords Go.Proofs.YtlocnfkkfpfpfaaW.PrintLast Go.Proofs.YtlocnfkkfpfpfaaW.PrintMore Go.Proofs.Ytlocnfkkfpfpfaa.Six
set_option linter.unusedSimpArgs false
set_option linter.unusedVariables false
section
variable {α : Type} {z : α} {one : List Int → Int → Except (Int × Int) (α × Int)} {enc : α → List Int} {okB : α → Bool} {cmp : α → α → Int}
theorem last_test (acc : List α) (x : α) (l : List α) (h : risesB cmp okB acc.getLast? (x :: l) = true) : okB x = true ∧ ¬ (0 < acc.length ∧ 0 ≤ cmp (acc.getD (acc.length - 1) z) x) ∧ risesB cmp okB (some x) l = true := by
 rcases List.eq_nil_or_concat acc with rfl | ⟨ys, y, rfl⟩
 ·
  simp only [List.getLast?_nil, risesB, Bool.and_eq_true] at h
  exact ⟨h.1, fun hh => by simp at hh, h.2⟩
 ·
  simp only [List.getLast?_concat, List.concat_eq_append, List.getLast?_append, List.getLast?_singleton, Option.some_or, risesB, Bool.and_eq_true, Bool.not_eq_true', decide_eq_false_iff_not] at h
  refine ⟨h.1.1, fun hh => h.1.2 ?_, h.2⟩
  have := hh.2
  simpa using this
theorem test_last (acc : List α) (x : α) (l : List α) (h1 : okB x = true) (h2 : ¬ (0 < acc.length ∧ 0 ≤ cmp (acc.getD (acc.length - 1) z) x)) (h3 : risesB cmp okB (some x) l = true) : risesB cmp okB acc.getLast? (x :: l) = true := by
 rcases List.eq_nil_or_concat acc with rfl | ⟨ys, y, rfl⟩
 ·
  simp only [List.getLast?_nil, risesB, Bool.and_eq_true]
  exact ⟨h1, h3⟩
 ·
  have h4 : ¬ 0 ≤ cmp y x := fun h => h2 ⟨by simp, by simpa using h⟩
  simp only [List.getLast?_concat, List.concat_eq_append, List.getLast?_append, List.getLast?_singleton, Option.some_or, risesB, Bool.and_eq_true, Bool.not_eq_true', decide_eq_false_iff_not]
  exact ⟨⟨h1, h4⟩, h3⟩
theorem listL_rt (H : Code1 one enc (fun x => okB x = true)) (bs : List Int) : ∀ (l : List α) (q : Int) (acc : List α), risesB cmp okB acc.getLast? l = true → At bs q ((l.map enc).flatten) → listL z (one bs) cmp l.length q acc = .ok (acc ++ l, q + ((l.map enc).flatten).length)
  | [], q, acc, _, _ => by simp [listL]
  | x :: l, q, acc, hr, hA => by
    obtain ⟨h1, h2, h3⟩ := last_test (z := z) acc x l hr
    rw [List.map_cons, List.flatten_cons] at hA ⊢
    obtain ⟨a1, a2⟩ := hA.split
    rw [List.length_cons, listL, H.rt bs q x h1 a1]
    dsimp only
    rw [if_neg h2, listL_rt H bs l _ (acc ++ [x]) (by rw [List.getLast?_append]; exact h3) a2]
    congr 2
    · simp
    · rw [List.length_append]
      omega
theorem listL_of (H : Code1 one enc (fun x => okB x = true)) (hah : ∀ bs, Ahead bs (one bs)) (bs : List Int) (hb : Bytes bs) : ∀ (d : Nat) (q : Int) (acc r : List α) (q2 : Int), 0 ≤ q → q ≤ bs.length → listL z (one bs) cmp d q acc = .ok (r, q2) →
    ∃ l, r = acc ++ l ∧ l.length = d ∧ risesB cmp okB acc.getLast? l = true ∧ At bs q ((l.map enc).flatten) ∧ q2 = q + ((l.map enc).flatten).length
  | 0, q, acc, r, q2, h0, hl, h => by
    rw [listL] at h
    simp only [Except.ok.injEq, Prod.mk.injEq] at h
    refine ⟨[], by simp [h.1], rfl, ?_, At.nil h0 hl, by simp [h.2]⟩
    cases acc.getLast? <;> rfl
  | d + 1, q, acc, r, q2, h0, hl, h => by
    rw [listL] at h
    cases ho : one bs q with
    | error f => rw [ho] at h; simp at h
    | ok xq =>
      obtain ⟨x, q1⟩ := xq
      rw [ho] at h
      dsimp only at h
      obtain ⟨o1, o2, o3⟩ := H.of bs q x q1 hb h0 ho
      have ha := hah bs q x q1 h0 ho
      split at h
      · simp at h
      · rename_i hn
        obtain ⟨l, l1, l2, l3, l4, l5⟩ := listL_of H hah bs hb d q1 (acc ++ [x]) r q2 (by omega) ha.2 h
        rw [List.getLast?_append] at l3
        refine ⟨x :: l, by simp [l1], by simp [l2], test_last (z := z) acc x l o1 hn l3, ?_, ?_⟩
        · rw [List.map_cons, List.flatten_cons]
          exact o2.join (by rw [← o3]; exact l4)
        · rw [List.map_cons, List.flatten_cons, List.length_append, l5]
          omega
theorem listL_ext (H : Code1 one enc (fun x => okB x = true)) (hah : ∀ bs, Ahead bs (one bs)) (bs more : List Int) : ∀ (d : Nat) (q : Int) (acc : List α), 0 ≤ q → listL z (one bs) cmp d q acc = .error (201, (bs.length : Int)) ∨ listL z (one (bs ++ more)) cmp d q acc = listL z (one bs) cmp d q acc
  | 0, q, acc, _ => .inr rfl
  | d + 1, q, acc, h0 => by
    rw [listL, listL]
    rcases H.ext bs more q h0 with h | h
    · left; rw [h]
    · rw [h]
      cases ho : one bs q with
      | error f => exact .inr rfl
      | ok xq =>
        obtain ⟨x, q1⟩ := xq
        have ha := hah bs q x q1 h0 ho
        dsimp only
        split
        · exact .inr rfl
        · exact listL_ext H hah bs more d q1 _ (by omega)
theorem list_code (H : Code1 one enc (fun x => okB x = true)) (hah : ∀ bs, Ahead bs (one bs)) (lo hi : Int) (hlo : 0 ≤ lo) (hhi : hi ≤ 2000000000000000000) :
 Code1 (fun bs p => listF z (one bs) cmp bs p lo hi) (encList enc) (fun l => lo ≤ l.length ∧ (l.length : Int) ≤ hi ∧ risesB cmp okB none l = true) := by
 refine ⟨fun bs p l hl hA => ?_, fun bs p l q hb hp h => ?_, fun bs more p hp => ?_⟩
 ·
  obtain ⟨a1, a2⟩ := hA.split
  show listF z (one bs) cmp bs p lo hi = _
  unfold listF
  rw [countF_rt (by omega) (by omega) hl.1 hl.2.1 a1]
  dsimp only
  rw [Int.toNat_natCast, listL_rt H bs l _ [] hl.2.2 a2]
  unfold encList
  rw [List.length_append, List.nil_append]
  congr 2
  omega
 ·
  change listF z (one bs) cmp bs p lo hi = _ at h
  unfold listF at h
  cases hc : countF bs p lo hi with
  | error f => rw [hc] at h; simp at h
  | ok nq =>
   obtain ⟨n, q1⟩ := nq
   rw [hc] at h
   dsimp only at h
   obtain ⟨c0, c1, c2, c3, c4⟩ := countF_of hb hp hc
   have hq := countF_ok hc
   obtain ⟨l2, e1, e2, e3, e4, e5⟩ := listL_of H hah bs hb n.toNat q1 [] l q (by omega) hq.2.2.2 h
   rw [List.nil_append] at e1
   subst e1
   have en : (l.length : Int) = n := by omega
   refine ⟨⟨by omega, by omega, e3⟩, ?_, ?_⟩
   ·
    unfold encList
    rw [en]
    exact c3.join (by rw [← c4]; exact e4)
   ·
    unfold encList
    rw [List.length_append, en, e5, c4]
    omega
 ·
  show listF z (one bs) cmp bs p lo hi = _ ∨ listF z (one (bs ++ more)) cmp (bs ++ more) p lo hi = listF z (one bs) cmp bs p lo hi
  unfold listF
  rcases countF_x lo hi bs more p hp with h | h
  ·
   left; rw [h]
  ·
   rw [h]
   cases hc : countF bs p lo hi with
   | error f => exact .inr rfl
   | ok nq =>
    obtain ⟨n, q1⟩ := nq
    have hq := countF_ok hc
    exact listL_ext H hah bs more n.toNat q1 [] (by omega)
end
theorem Code1.imp {α : Type} {f : List Int → Int → Except (Int × Int) (α × Int)} {enc : α → List Int} {ok ok' : α → Prop} (H : Code1 f enc ok) (h : ∀ x, ok x ↔ ok' x) : Code1 f enc ok' :=
  ⟨fun bs p x hx => H.rt bs p x ((h x).2 hx), fun bs p x q hb hp hf => ⟨(h x).1 (H.of bs p x q hb hp hf).1, (H.of bs p x q hb hp hf).2⟩, H.ext⟩
theorem text_codeB : Code1 textF encText (fun s => okS s = true) := text_code.imp (fun s => by simp [okS])
theorem num_codeB : Code1 numF encNum (fun s => okI s = true) := num_code.imp (fun s => by simp [okI])
theorem texts_codeB : Code1 textsF (encList encText) (fun l => okSS l = true) := (list_code (z := ByteArray.empty) (cmp := cmpS) text_codeB textF_ahead 1 1000 (by omega) (by omega)).imp (fun l => by
  unfold okSS
  simp only [Bool.and_eq_true, decide_eq_true_eq]
  exact ⟨fun h => ⟨⟨by omega, by omega⟩, h.2.2⟩, fun h => ⟨by omega, by omega, h.2⟩⟩)
theorem nums_codeB : Code1 numsF (encList encNum) (fun l => okII l = true) := (list_code (z := (0 : Int)) (cmp := cmpI) num_codeB numF_ahead 1 1000 (by omega) (by omega)).imp (fun l => by
  unfold okII
  simp only [Bool.and_eq_true, decide_eq_true_eq]
  exact ⟨fun h => ⟨⟨by omega, by omega⟩, h.2.2⟩, fun h => ⟨by omega, by omega, h.2⟩⟩)
theorem textsF_ahead (bs : List Int) : Ahead bs (textsF bs) := listF_ahead _ bs _ _ (textF_ahead bs) _ _ (by omega)
theorem numsF_ahead (bs : List Int) : Ahead bs (numsF bs) := listF_ahead _ bs _ _ (numF_ahead bs) _ _ (by omega)
theorem getN_x (bs more : List Int) (b : Bool) (d q : Int) (hq : 0 ≤ q) : getN bs b d q = .error (201, (bs.length : Int)) ∨ getN (bs ++ more) b d q = getN bs b d q := by
 unfold getN
 by_cases hb : b = true
 ·
  rw [if_pos hb, if_pos hb]; exact countF_x 0 65535 bs more q hq
 ·
  rw [if_neg hb, if_neg hb]; exact .inr rfl
def optE (b : Bool) (n : Int) : List Int := if b = true then encCount n else []
theorem getN_rt {bs : List Int} {b : Bool} {q n : Int} (h : opOK b n = true) (hA : At bs q (optE b n)) : getN bs b 0 q = .ok (n, q + (optE b n).length) := by
 unfold getN
 unfold opOK at h
 unfold optE at hA ⊢
 by_cases hb : b = true
 ·
  rw [if_pos hb] at h hA ⊢
  have h2 : 0 ≤ n ∧ n ≤ 65535 := by simpa using h
  rw [countF_rt h2.1 (by omega) h2.1 h2.2 hA, if_pos hb]
 ·
  rw [if_neg hb] at h hA ⊢
  have h2 : n = 0 := by simpa using h
  subst h2
  rw [if_neg hb]
  simp
theorem getN_of {bs : List Int} (hbs : Bytes bs) {b : Bool} {q n q2 : Int} (h0 : 0 ≤ q) (h1 : q ≤ bs.length) (h : getN bs b 0 q = .ok (n, q2)) : opOK b n = true ∧ At bs q (optE b n) ∧ q2 = q + (optE b n).length ∧ q ≤ q2 ∧ q2 ≤ bs.length := by
 unfold getN at h
 unfold opOK optE
 by_cases hb : b = true
 ·
  rw [if_pos hb] at h ⊢
  obtain ⟨c0, c1, c2, c3, c4⟩ := countF_of hbs h0 h
  have hq := countF_ok h
  rw [if_pos hb]
  exact ⟨by simpa using ⟨c0, c2⟩, c3, c4, by omega, by omega⟩
 ·
  rw [if_neg hb] at h ⊢
  simp only [Except.ok.injEq, Prod.mk.injEq] at h
  obtain ⟨rfl, rfl⟩ := h
  rw [if_neg hb]
  exact ⟨by simp, At.nil h0 h1, by simp, by omega, by omega⟩
theorem encInstr_eq (x : S74) (h : 1 ≤ x.f0 ∧ x.f0 ≤ 36) : encInstr x = x.f0 :: (optE (usesV x.f0).1 x.f1 ++ (optE (usesV x.f0).2.1 x.f2 ++ optE (usesV x.f0).2.2 x.f3)) := by
  unfold encInstr optE
  rw [show x.f0 % 256 = x.f0 by omega]
  simp
theorem instr_code : Code1 instrF encInstr (fun x => instrOK x = true) := by
 refine ⟨fun bs p x hx hA => ?_, fun bs p x q hb hp h => ?_, fun bs more p hp => ?_⟩
 ·
  unfold instrOK at hx
  simp only [Bool.and_eq_true, decide_eq_true_eq] at hx
  obtain ⟨h0, h1, h2, h3⟩ := hx
  rw [encInstr_eq x h0] at hA ⊢
  obtain ⟨a1, a2, a3, a4⟩ := hA.head
  obtain ⟨b1, b2⟩ := a4.split
  obtain ⟨b2, b3⟩ := b2.split
  unfold instrF
  rw [if_neg (by omega), a1, if_neg (by omega)]
  simp only [instrL]
  rw [getN_rt h1 b1]
  dsimp only
  rw [getN_rt h2 b2]
  dsimp only
  rw [getN_rt h3 b3]
  dsimp only
  simp only [List.length_cons, List.length_append]
  congr 2
  omega
 ·
  unfold instrF at h
  by_cases hend : (bs.length : Int) ≤ p
  ·
   rw [if_pos hend] at h; simp at h
  rw [if_neg hend] at h
  by_cases hop : bs.getD p.toNat 0 < 1 ∨ 36 < bs.getD p.toNat 0
  ·
   rw [if_pos hop] at h; simp at h
  rw [if_neg hop] at h
  simp only [instrL] at h
  cases g1 : getN bs (usesV (bs.getD p.toNat 0)).1 0 (p + 1) with
  | error f => rw [g1] at h; simp at h
  | ok y1 =>
   obtain ⟨n1, q1⟩ := y1
   rw [g1] at h
   dsimp only at h
   cases g2 : getN bs (usesV (bs.getD p.toNat 0)).2.1 0 q1 with
   | error f => rw [g2] at h; simp at h
   | ok y2 =>
    obtain ⟨n2, q2⟩ := y2
    rw [g2] at h
    dsimp only at h
    cases g3 : getN bs (usesV (bs.getD p.toNat 0)).2.2 0 q2 with
    | error f => rw [g3] at h; simp at h
    | ok y3 =>
     obtain ⟨n3, q3⟩ := y3
     rw [g3] at h
     simp only [Except.ok.injEq, Prod.mk.injEq] at h
     obtain ⟨rfl, rfl⟩ := h
     obtain ⟨r1, r2, r3, r4, r5⟩ := getN_of hb (by omega) (by omega) g1
     obtain ⟨s1, s2, s3, s4, s5⟩ := getN_of hb (by omega) (by omega) g2
     obtain ⟨t1, t2, t3, t4, t5⟩ := getN_of hb (by omega) (by omega) g3
     have hop' : 1 ≤ bs.getD p.toNat 0 ∧ bs.getD p.toNat 0 ≤ 36 := by omega
     rw [encInstr_eq _ hop']
     refine ⟨?_, ?_, ?_⟩
     ·
      unfold instrOK
      simp only [Bool.and_eq_true, decide_eq_true_eq]
      exact ⟨hop', r1, s1, t1⟩
     ·
      refine At.cons hp (by omega) (r2.join ?_)
      rw [← r3]
      refine s2.join ?_
      rw [← s3]
      exact t2
     ·
      simp only [List.length_cons, List.length_append]
      omega
 ·
  unfold instrF
  by_cases hend : (bs.length : Int) ≤ p
  ·
   left; rw [if_pos hend]
  rw [if_neg hend, if_neg (show ¬ ((bs ++ more).length : Int) ≤ p by rw [List.length_append]; omega)]
  have hg : (bs ++ more).getD p.toNat 0 = bs.getD p.toNat 0 := by
   rw [List.getD_eq_getElem?_getD, List.getD_eq_getElem?_getD, List.getElem?_append_left (by omega)]
  rw [hg]
  by_cases hop : bs.getD p.toNat 0 < 1 ∨ 36 < bs.getD p.toNat 0
  ·
   right; rw [if_pos hop, if_pos hop]
  rw [if_neg hop, if_neg hop]
  simp only [instrL]
  have fw : ∀ b d q y q2, getN bs b d q = .ok (y, q2) → q ≤ q2 := fun b d q y q2 h => by
   unfold getN at h
   split at h
   ·
    have := countF_ok h; omega
   ·
    simp only [Except.ok.injEq, Prod.mk.injEq] at h; omega
  rcases getN_x bs more (usesV (bs.getD p.toNat 0)).1 0 (p + 1) (by omega) with h | h
  ·
   left; rw [h]
  rw [h]
  cases g1 : getN bs (usesV (bs.getD p.toNat 0)).1 0 (p + 1) with
  | error f => exact .inr rfl
  | ok y1 =>
   obtain ⟨n1, q1⟩ := y1
   have := fw _ _ _ _ _ g1
   dsimp only
   rcases getN_x bs more (usesV (bs.getD p.toNat 0)).2.1 0 q1 (by omega) with h | h
   ·
    left; rw [h]
   rw [h]
   cases g2 : getN bs (usesV (bs.getD p.toNat 0)).2.1 0 q1 with
   | error f => exact .inr rfl
   | ok y2 =>
    obtain ⟨n2, q2⟩ := y2
    have := fw _ _ _ _ _ g2
    dsimp only
    rcases getN_x bs more (usesV (bs.getD p.toNat 0)).2.2 0 q2 (by omega) with h | h
    ·
     left; rw [h]
    rw [h]
    exact .inr rfl
end Go.Proofs.Ytlocnfkkfpfpfaa.D
