/- The plain side: programs there and back; cut off; with a rest; the places of faults. -/
import Derived.Test.YtlocnfkkfpfpfaazCDm17
namespace Go.Proofs.Ytlocnfkkfpfpfaa.D
open Go.RowKit Go.Proofs.YtlocnfkkfpfpfaaW.PrintWords Go.Proofs.YtlocnfkkfpfpfaaW.PrintLast Go.Proofs.YtlocnfkkfpfpfaaW.PrintMore Go.Proofs.Ytlocnfkkfpfpfaa.Six
set_option linter.unusedSimpArgs false
set_option linter.unusedVariables false
theorem codeL_rt (bs : List Int) : ∀ (l : List S74) (q : Int) (acc : List S74), l.all instrOK = true → At bs q ((l.map encInstr).flatten) → codeL bs l.length q acc = .ok (acc ++ l, q + ((l.map encInstr).flatten).length)
  | [], q, acc, _, _ => by simp [codeL]
  | x :: l, q, acc, hr, hA => by
    rw [List.all_cons, Bool.and_eq_true] at hr
    rw [List.map_cons, List.flatten_cons] at hA ⊢
    obtain ⟨a1, a2⟩ := hA.split
    rw [List.length_cons, codeL, instr_code.rt bs q x hr.1 a1]
    dsimp only
    rw [codeL_rt bs l _ (acc ++ [x]) hr.2 a2]
    congr 2
    · simp
    · rw [List.length_append]
      omega
theorem codeL_of (bs : List Int) (hb : Bytes bs) : ∀ (d : Nat) (q : Int) (acc r : List S74) (q2 : Int), 0 ≤ q → q ≤ bs.length → codeL bs d q acc = .ok (r, q2) →
    ∃ l, r = acc ++ l ∧ l.length = d ∧ l.all instrOK = true ∧ At bs q ((l.map encInstr).flatten) ∧ q2 = q + ((l.map encInstr).flatten).length
  | 0, q, acc, r, q2, h0, hl, h => by
    rw [codeL] at h
    simp only [Except.ok.injEq, Prod.mk.injEq] at h
    exact ⟨[], by simp [h.1], rfl, rfl, At.nil h0 hl, by simp [h.2]⟩
  | d + 1, q, acc, r, q2, h0, hl, h => by
    rw [codeL] at h
    cases ho : instrF bs q with
    | error f => rw [ho] at h; simp at h
    | ok xq =>
      obtain ⟨x, q1⟩ := xq
      rw [ho] at h
      dsimp only at h
      obtain ⟨o1, o2, o3⟩ := instr_code.of bs q x q1 hb h0 ho
      have ha := instrF_ahead bs q x q1 h0 ho
      obtain ⟨l, l1, l2, l3, l4, l5⟩ := codeL_of bs hb d q1 (acc ++ [x]) r q2 (by omega) ha.2 h
      refine ⟨x :: l, by simp [l1], by simp [l2], by rw [List.all_cons, o1, l3]; rfl, ?_, ?_⟩
      · rw [List.map_cons, List.flatten_cons]
        exact o2.join (by rw [← o3]; exact l4)
      · rw [List.map_cons, List.flatten_cons, List.length_append, l5]
        omega
theorem headL_rt (bs : List Int) (h : At bs 0 [66, 82, 84, 1]) : headL bs 4 0 = none := by
  obtain ⟨a0, a1, _, h⟩ := h.head
  obtain ⟨b0, b1, _, h⟩ := h.head
  obtain ⟨c0, c1, _, h⟩ := h.head
  obtain ⟨d0, d1, _, _⟩ := h.head
  have e0 : bs.getD 0 0 = 66 := a0
  have e1 : bs.getD 1 0 = 82 := b0
  have e2 : bs.getD 2 0 = 84 := c0
  have e3 : bs.getD 3 0 = 1 := d0
  unfold headL
  rw [if_neg (by omega), e0, if_neg (by decide)]
  unfold headL
  rw [if_neg (by omega), e1, if_neg (by decide)]
  unfold headL
  rw [if_neg (by omega), e2, if_neg (by decide)]
  unfold headL
  rw [if_neg (by omega), e3, if_neg (by decide)]
  rfl
theorem headL_of (bs : List Int) (h : headL bs 4 0 = none) : At bs 0 [66, 82, 84, 1] := by
 have st : ∀ d i, headL bs (d + 1) i = none → i < bs.length ∧ bs.getD i 0 = headB i ∧ headL bs d (i + 1) = none := by
  intro d i hh
  rw [headL] at hh
  by_cases h1 : bs.length ≤ i
  ·
   rw [if_pos h1] at hh; cases hh
  rw [if_neg h1] at hh
  by_cases h2 : bs.getD i 0 ≠ headB i
  ·
   rw [if_pos h2] at hh; cases hh
  rw [if_neg h2] at hh
  exact ⟨by omega, Classical.not_not.1 h2, hh⟩
 obtain ⟨a1, a2, h⟩ := st 3 0 h
 obtain ⟨b1, b2, h⟩ := st 2 1 h
 obtain ⟨c1, c2, h⟩ := st 1 2 h
 obtain ⟨d1, d2, _⟩ := st 0 3 h
 have s4 : At bs ((0 : Int) + 1 + 1 + 1 + 1) [] := At.nil (by omega) (by omega)
 have s3 := At.cons (bs := bs) (p := (0 : Int) + 1 + 1 + 1) (by omega) (by omega) s4
 have s2 := At.cons (bs := bs) (p := (0 : Int) + 1 + 1) (by omega) (by omega) s3
 have s1 := At.cons (bs := bs) (p := (0 : Int) + 1) (by omega) (by omega) s2
 have s0 := At.cons (bs := bs) (p := (0 : Int)) (by omega) (by omega) s1
 have e0 : bs.getD (0 : Int).toNat 0 = 66 := a2
 have e1 : bs.getD ((0 : Int) + 1).toNat 0 = 82 := b2
 have e2 : bs.getD ((0 : Int) + 1 + 1).toNat 0 = 84 := c2
 have e3 : bs.getD ((0 : Int) + 1 + 1 + 1).toNat 0 = 1 := d2
 rw [e0, e1, e2, e3] at s0
 exact s0
theorem T_code (hi : Int) (hhi : hi ≤ 4096) : Code1 (fun bs p => listF ByteArray.empty (textF bs) cmpS bs p 0 hi) (encList encText) (fun l => (0 : Int) ≤ l.length ∧ (l.length : Int) ≤ hi ∧ risesB cmpS okS none l = true) := list_code text_codeB textF_ahead 0 hi (by omega) (by omega)
theorem N_code (hi : Int) (hhi : hi ≤ 4096) : Code1 (fun bs p => listF 0 (numF bs) cmpI bs p 0 hi) (encList encNum) (fun l => (0 : Int) ≤ l.length ∧ (l.length : Int) ≤ hi ∧ risesB cmpI okI none l = true) := list_code num_codeB numF_ahead 0 hi (by omega) (by omega)
theorem S_code (hi : Int) (hhi : hi ≤ 4096) : Code1 (fun bs p => listF [] (textsF bs) (cmpL cmpS) bs p 0 hi) (encList (encList encText)) (fun l => (0 : Int) ≤ l.length ∧ (l.length : Int) ≤ hi ∧ risesB (cmpL cmpS) okSS none l = true) := list_code texts_codeB textsF_ahead 0 hi (by omega) (by omega)
theorem M_code (hi : Int) (hhi : hi ≤ 4096) : Code1 (fun bs p => listF [] (numsF bs) (cmpL cmpI) bs p 0 hi) (encList (encList encNum)) (fun l => (0 : Int) ≤ l.length ∧ (l.length : Int) ≤ hi ∧ risesB (cmpL cmpI) okII none l = true) := list_code nums_codeB numsF_ahead 0 hi (by omega) (by omega)
theorem formedB_iff (g : Pg) : formedB g = true ↔ g.T.length + g.N.length + g.S.length + g.M.length ≤ 4096 ∧ g.C.length ≤ 32768 ∧ (0 ≤ g.dep ∧ g.dep ≤ 128 ∧ 0 ≤ g.loc ∧ g.loc ≤ 1024) ∧ risesB cmpS okS none g.T = true ∧ risesB cmpI okI none g.N = true ∧ risesB (cmpL cmpS) okSS none g.S = true ∧ risesB (cmpL cmpI) okII none g.M = true ∧ g.C.all instrOK = true := by
  unfold formedB
  simp only [Bool.and_eq_true, decide_eq_true_eq]
theorem encP_eq (g : Pg) : encP g = [66, 82, 84, 1] ++ (encCount g.dep ++ (encCount g.loc ++ (encList encText g.T ++ (encList encNum g.N ++ (encList (encList encText) g.S ++ (encList (encList encNum) g.M ++ encList encInstr g.C)))))) := by
  unfold encP
  simp only [List.append_assoc]
theorem program_read (g : Pg) (hg : formedB g = true) (bs : List Int) (hA : At bs 0 (encP g)) : programF bs = pEnd bs g (encP g).length := by
  obtain ⟨h1, h2, ⟨d1, d2, d3, d4⟩, hT, hN, hS, hM, hC⟩ := (formedB_iff g).1 hg
  rw [encP_eq] at hA ⊢
  obtain ⟨aH, hA⟩ := hA.split
  obtain ⟨aD, hA⟩ := hA.split
  obtain ⟨aL, hA⟩ := hA.split
  obtain ⟨aT, hA⟩ := hA.split
  obtain ⟨aN, hA⟩ := hA.split
  obtain ⟨aS, hA⟩ := hA.split
  obtain ⟨aM, aC⟩ := hA.split
  have e4 : (0 : Int) + ([66, 82, 84, 1] : List Int).length = 4 := rfl
  rw [e4] at aD aL aT aN aS aM aC
  rw [show encList encInstr g.C = encCount g.C.length ++ (g.C.map encInstr).flatten from rfl] at aC
  obtain ⟨aK, aC⟩ := aC.split
  unfold programF
  rw [headL_rt bs aH]
  dsimp only
  unfold pDep
  rw [countF_rt d1 (by omega) d1 d2 aD]
  dsimp only
  unfold pLoc
  rw [countF_rt d3 (by omega) d3 d4 aL]
  dsimp only
  unfold pT
  rw [(T_code 4096 (by omega)).rt bs _ g.T ⟨by omega, by omega, hT⟩ aT]
  dsimp only
  unfold pN
  rw [(N_code (4096 - g.T.length) (by omega)).rt bs _ g.N ⟨by omega, by omega, hN⟩ aN]
  dsimp only
  unfold pS
  rw [(S_code (4096 - g.T.length - g.N.length) (by omega)).rt bs _ g.S ⟨by omega, by omega, hS⟩ aS]
  dsimp only
  unfold pM
  rw [(M_code (4096 - g.T.length - g.N.length - g.S.length) (by omega)).rt bs _ g.M ⟨by omega, by omega, hM⟩ aM]
  dsimp only
  unfold pCode
  rw [countF_rt (by omega) (by omega) (by omega) (by omega) aK]
  dsimp only
  unfold pLoop
  rw [Int.toNat_natCast, codeL_rt bs g.C _ [] hC aC]
  dsimp only
  rw [List.nil_append]
  congr 1
  show _ = (([66, 82, 84, 1] ++ (encCount g.dep ++ (encCount g.loc ++ (encList encText g.T ++ (encList encNum g.N ++ (encList (encList encText) g.S ++ (encList (encList encNum) g.M ++ (encCount g.C.length ++ (g.C.map encInstr).flatten))))))) : List Int).length : Int)
  simp only [List.length_append, List.length_cons, List.length_nil]
  omega
theorem program_of (bs : List Int) (hb : Bytes bs) (g : Pg) (q : Int) (h : programF bs = .ok (g, q)) : formedB g = true ∧ bs = encP g := by
 unfold programF at h
 cases h0 : headL bs 4 0 with
 | some f => rw [h0] at h; simp at h
 | none =>
 rw [h0] at h
 have aH := headL_of bs h0
 have lH := aH.le
 dsimp only at h
 unfold pDep at h
 cases h1 : countF bs 4 0 128 with
 | error f => rw [h1] at h; simp at h
 | ok x1 =>
 obtain ⟨dep, q1⟩ := x1
 rw [h1] at h
 obtain ⟨d0, d1, d2, aD, e1⟩ := countF_of hb (by omega) h1
 have n1 := countF_ok h1
 dsimp only at h
 unfold pLoc at h
 cases h2 : countF bs q1 0 1024 with
 | error f => rw [h2] at h; simp at h
 | ok x2 =>
 obtain ⟨loc, q2⟩ := x2
 rw [h2] at h
 obtain ⟨l0, l1, l2, aL, e2⟩ := countF_of hb (by omega) h2
 have n2 := countF_ok h2
 dsimp only at h
 unfold pT at h
 cases h3 : listF ByteArray.empty (textF bs) cmpS bs q2 0 4096 with
 | error f => rw [h3] at h; simp at h
 | ok x3 =>
 obtain ⟨T, q3⟩ := x3
 rw [h3] at h
 obtain ⟨⟨t0, t1, t2⟩, aT, e3⟩ := (T_code 4096 (by omega)).of bs q2 T q3 hb (by omega) h3
 have n3 := listF_ok (textF_ahead bs) (by omega) (by omega) h3
 dsimp only at h
 unfold pN at h
 cases h4 : listF 0 (numF bs) cmpI bs q3 0 (4096 - T.length) with
 | error f => rw [h4] at h; simp at h
 | ok x4 =>
 obtain ⟨N, q4⟩ := x4
 rw [h4] at h
 obtain ⟨⟨u0, u1, u2⟩, aN, e4⟩ := (N_code (4096 - T.length) (by omega)).of bs q3 N q4 hb (by omega) h4
 have n4 := listF_ok (numF_ahead bs) (by omega) (by omega) h4
 dsimp only at h
 unfold pS at h
 cases h5 : listF [] (textsF bs) (cmpL cmpS) bs q4 0 (4096 - T.length - N.length) with
 | error f => rw [h5] at h; simp at h
 | ok x5 =>
 obtain ⟨S, q5⟩ := x5
 rw [h5] at h
 obtain ⟨⟨v0, v1, v2⟩, aS, e5⟩ := (S_code (4096 - T.length - N.length) (by omega)).of bs q4 S q5 hb (by omega) h5
 have n5 := listF_ok (textsF_ahead bs) (by omega) (by omega) h5
 dsimp only at h
 unfold pM at h
 cases h6 : listF [] (numsF bs) (cmpL cmpI) bs q5 0 (4096 - T.length - N.length - S.length) with
 | error f => rw [h6] at h; simp at h
 | ok x6 =>
 obtain ⟨M, q6⟩ := x6
 rw [h6] at h
 obtain ⟨⟨w0, w1, w2⟩, aM, e6⟩ := (M_code (4096 - T.length - N.length - S.length) (by omega)).of bs q5 M q6 hb (by omega) h6
 have n6 := listF_ok (numsF_ahead bs) (by omega) (by omega) h6
 dsimp only at h
 unfold pCode at h
 cases h7 : countF bs q6 0 32768 with
 | error f => rw [h7] at h; simp at h
 | ok x7 =>
 obtain ⟨k, q7⟩ := x7
 rw [h7] at h
 obtain ⟨k0, k1, k2, aK, e7⟩ := countF_of hb (by omega) h7
 have n7 := countF_ok h7
 dsimp only at h
 unfold pLoop at h
 cases h8 : codeL bs k.toNat q7 [] with
 | error f => rw [h8] at h; simp at h
 | ok x8 =>
 obtain ⟨C, q8⟩ := x8
 rw [h8] at h
 obtain ⟨C2, c1, c2, c3, aC, e8⟩ := codeL_of bs hb k.toNat q7 [] C q8 (by omega) (by omega) h8
 rw [List.nil_append] at c1
 subst c1
 have ek : (C.length : Int) = k := by omega
 dsimp only at h
 unfold pEnd at h
 by_cases hr : q8 < bs.length
 ·
  rw [if_pos hr] at h; simp at h
 rw [if_neg hr] at h
 simp only [Except.ok.injEq, Prod.mk.injEq] at h
 obtain ⟨rfl, rfl⟩ := h
 refine ⟨(formedB_iff _).2 ⟨by dsimp only; omega, by dsimp only; omega, ⟨d1, d2, l1, l2⟩, t2, u2, v2, w2, c3⟩, ?_⟩
 have aCode : At bs q6 (encList encInstr C) := by
  unfold encList
  rw [ek]
  exact aK.join (by rw [← e7]; exact aC)
 have hA : At bs 0 (encP ⟨T, N, S, M, C, dep, loc⟩) := by
  rw [encP_eq]
  refine aH.join ?_
  refine aD.join ?_
  rw [← e1]
  refine aL.join ?_
  rw [← e2]
  refine aT.join ?_
  rw [← e3]
  refine aN.join ?_
  rw [← e4]
  refine aS.join ?_
  rw [← e5]
  refine aM.join ?_
  rw [← e6]
  exact aCode
 obtain ⟨pre, post, e, hp⟩ := hA
 have hpre : pre = [] := List.eq_nil_of_length_eq_zero (by omega)
 subst hpre
 have hlen : ((encP ⟨T, N, S, M, C, dep, loc⟩).length : Int) = q8 := by
  rw [encP_eq]
  show (([66, 82, 84, 1] ++ (encCount dep ++ (encCount loc ++ (encList encText T ++ (encList encNum N ++ (encList (encList encText) S ++ (encList (encList encNum) M ++ (encCount C.length ++ (C.map encInstr).flatten))))))) : List Int).length : Int) = q8
  rw [ek]
  simp only [List.length_append, List.length_cons, List.length_nil]
  omega
 have hpost : post = [] := by
  have := congrArg List.length e
  simp only [List.length_append, List.length_nil] at this
  exact List.eq_nil_of_length_eq_zero (by omega)
 subst hpost
 rw [e]
 simp
theorem program_rt (g : Pg) (hg : formedB g = true) : programF (encP g) = .ok (g, ((encP g).length : Int)) := by
  rw [program_read g hg (encP g) ⟨[], [], by simp, rfl⟩]
  unfold pEnd
  rw [if_neg (by omega)]
end Go.Proofs.Ytlocnfkkfpfpfaa.D
