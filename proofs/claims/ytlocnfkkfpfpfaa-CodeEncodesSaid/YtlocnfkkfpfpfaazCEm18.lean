/- The plain side: programs there and back; cut off; with a rest; the places of faults. -/
import Derived.Test.YtlocnfkkfpfpfaazCEm17
namespace Go.Proofs.Ytlocnfkkfpfpfaa.D
open Go.RowKit Go.Proofs.YtlocnfkkfpfpfaaW.PrintWords Go.Proofs.YtlocnfkkfpfpfaaW.PrintLast Go.Proofs.YtlocnfkkfpfpfaaW.PrintMore Go.Proofs.Ytlocnfkkfpfpfaa.Six
set_option linter.unusedSimpArgs false
set_option linter.unusedVariables false
theorem codeL_rt (bs : List Int) : ∀ (l : List S74) (q : Int) (acc : List S74), l.all instrOK = true → At bs q ((l.map encInstr).flatten) → codeL bs l.length q acc = .ok (acc ++ l, q + ((l.map encInstr).flatten).length)
  | [], q, acc, _, _ => by simp [codeL]
  | x :: l, q, acc, hr, hA => by
    rw [List.all_cons, Bool.and_eq_true] at hr
    rw [List.map_cons, List.flatten_cons] at hA ⊢
    obtain ⟨a1, a2⟩ := hA.split
    rw [List.length_cons, codeL, instr_code.rt bs q x hr.1 a1]
    dsimp only
    rw [codeL_rt bs l _ (acc ++ [x]) hr.2 a2]
    congr 2
    · simp
    · rw [List.length_append]
      omega
theorem headL_rt (bs : List Int) (h : At bs 0 [66, 82, 84, 1]) : headL bs 4 0 = none := by
  obtain ⟨a0, a1, _, h⟩ := h.head
  obtain ⟨b0, b1, _, h⟩ := h.head
  obtain ⟨c0, c1, _, h⟩ := h.head
  obtain ⟨d0, d1, _, _⟩ := h.head
  have e0 : bs.getD 0 0 = 66 := a0
  have e1 : bs.getD 1 0 = 82 := b0
  have e2 : bs.getD 2 0 = 84 := c0
  have e3 : bs.getD 3 0 = 1 := d0
  unfold headL
  rw [if_neg (by omega), e0, if_neg (by decide)]
  unfold headL
  rw [if_neg (by omega), e1, if_neg (by decide)]
  unfold headL
  rw [if_neg (by omega), e2, if_neg (by decide)]
  unfold headL
  rw [if_neg (by omega), e3, if_neg (by decide)]
  rfl
theorem T_code (hi : Int) (hhi : hi ≤ 4096) : Code1 (fun bs p => listF ByteArray.empty (textF bs) cmpS bs p 0 hi) (encList encText) (fun l => (0 : Int) ≤ l.length ∧ (l.length : Int) ≤ hi ∧ risesB cmpS okS none l = true) := list_code text_codeB textF_ahead 0 hi (by omega) (by omega)
theorem N_code (hi : Int) (hhi : hi ≤ 4096) : Code1 (fun bs p => listF 0 (numF bs) cmpI bs p 0 hi) (encList encNum) (fun l => (0 : Int) ≤ l.length ∧ (l.length : Int) ≤ hi ∧ risesB cmpI okI none l = true) := list_code num_codeB numF_ahead 0 hi (by omega) (by omega)
theorem S_code (hi : Int) (hhi : hi ≤ 4096) : Code1 (fun bs p => listF [] (textsF bs) (cmpL cmpS) bs p 0 hi) (encList (encList encText)) (fun l => (0 : Int) ≤ l.length ∧ (l.length : Int) ≤ hi ∧ risesB (cmpL cmpS) okSS none l = true) := list_code texts_codeB textsF_ahead 0 hi (by omega) (by omega)
theorem M_code (hi : Int) (hhi : hi ≤ 4096) : Code1 (fun bs p => listF [] (numsF bs) (cmpL cmpI) bs p 0 hi) (encList (encList encNum)) (fun l => (0 : Int) ≤ l.length ∧ (l.length : Int) ≤ hi ∧ risesB (cmpL cmpI) okII none l = true) := list_code nums_codeB numsF_ahead 0 hi (by omega) (by omega)
theorem formedB_iff (g : Pg) : formedB g = true ↔ g.T.length + g.N.length + g.S.length + g.M.length ≤ 4096 ∧ g.C.length ≤ 32768 ∧ (0 ≤ g.dep ∧ g.dep ≤ 128 ∧ 0 ≤ g.loc ∧ g.loc ≤ 1024) ∧ risesB cmpS okS none g.T = true ∧ risesB cmpI okI none g.N = true ∧ risesB (cmpL cmpS) okSS none g.S = true ∧ risesB (cmpL cmpI) okII none g.M = true ∧ g.C.all instrOK = true := by
  unfold formedB
  simp only [Bool.and_eq_true, decide_eq_true_eq]
theorem encP_eq (g : Pg) : encP g = [66, 82, 84, 1] ++ (encCount g.dep ++ (encCount g.loc ++ (encList encText g.T ++ (encList encNum g.N ++ (encList (encList encText) g.S ++ (encList (encList encNum) g.M ++ encList encInstr g.C)))))) := by
  unfold encP
  simp only [List.append_assoc]
theorem program_read (g : Pg) (hg : formedB g = true) (bs : List Int) (hA : At bs 0 (encP g)) : programF bs = pEnd bs g (encP g).length := by
  obtain ⟨h1, h2, ⟨d1, d2, d3, d4⟩, hT, hN, hS, hM, hC⟩ := (formedB_iff g).1 hg
  rw [encP_eq] at hA ⊢
  obtain ⟨aH, hA⟩ := hA.split
  obtain ⟨aD, hA⟩ := hA.split
  obtain ⟨aL, hA⟩ := hA.split
  obtain ⟨aT, hA⟩ := hA.split
  obtain ⟨aN, hA⟩ := hA.split
  obtain ⟨aS, hA⟩ := hA.split
  obtain ⟨aM, aC⟩ := hA.split
  have e4 : (0 : Int) + ([66, 82, 84, 1] : List Int).length = 4 := rfl
  rw [e4] at aD aL aT aN aS aM aC
  rw [show encList encInstr g.C = encCount g.C.length ++ (g.C.map encInstr).flatten from rfl] at aC
  obtain ⟨aK, aC⟩ := aC.split
  unfold programF
  rw [headL_rt bs aH]
  dsimp only
  unfold pDep
  rw [countF_rt d1 (by omega) d1 d2 aD]
  dsimp only
  unfold pLoc
  rw [countF_rt d3 (by omega) d3 d4 aL]
  dsimp only
  unfold pT
  rw [(T_code 4096 (by omega)).rt bs _ g.T ⟨by omega, by omega, hT⟩ aT]
  dsimp only
  unfold pN
  rw [(N_code (4096 - g.T.length) (by omega)).rt bs _ g.N ⟨by omega, by omega, hN⟩ aN]
  dsimp only
  unfold pS
  rw [(S_code (4096 - g.T.length - g.N.length) (by omega)).rt bs _ g.S ⟨by omega, by omega, hS⟩ aS]
  dsimp only
  unfold pM
  rw [(M_code (4096 - g.T.length - g.N.length - g.S.length) (by omega)).rt bs _ g.M ⟨by omega, by omega, hM⟩ aM]
  dsimp only
  unfold pCode
  rw [countF_rt (by omega) (by omega) (by omega) (by omega) aK]
  dsimp only
  unfold pLoop
  rw [Int.toNat_natCast, codeL_rt bs g.C _ [] hC aC]
  dsimp only
  rw [List.nil_append]
  congr 1
  show _ = (([66, 82, 84, 1] ++ (encCount g.dep ++ (encCount g.loc ++ (encList encText g.T ++ (encList encNum g.N ++ (encList (encList encText) g.S ++ (encList (encList encNum) g.M ++ (encCount g.C.length ++ (g.C.map encInstr).flatten))))))) : List Int).length : Int)
  simp only [List.length_append, List.length_cons, List.length_nil]
  omega
theorem program_rt (g : Pg) (hg : formedB g = true) : programF (encP g) = .ok (g, ((encP g).length : Int)) := by
  rw [program_read g hg (encP g) ⟨[], [], by simp, rfl⟩]
  unfold pEnd
  rw [if_neg (by omega)]
end Go.Proofs.Ytlocnfkkfpfpfaa.D
