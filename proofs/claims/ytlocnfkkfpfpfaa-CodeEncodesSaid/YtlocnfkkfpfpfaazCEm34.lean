/- HasForm: its walk. -/
import Derived.Test.YtlocnfkkfpfpfaazCEm25
import Derived.Test.YtlocnfkkfpfpfaazCEm33
namespace Go.Proofs.Ytlocnfkkfpfpfaa.D
open Go.RowKit Go.Proofs.YtlocnfkkfpfpfaaW.PrintWords Go.Proofs.YtlocnfkkfpfpfaaW.PrintLast Go.Proofs.YtlocnfkkfpfpfaaW.PrintMore Go.Proofs.Ytlocnfkkfpfpfaa.Six
set_option linter.unusedSimpArgs false
set_option linter.unusedVariables false
def hasForm.T10 : Bool × List (List Nat × List Nat) := (true, [([], []), ([0], [0]), ([], []), ([1, 2], [1, 2]), ([3], [3]), ([4], [4]), ([5], [5]), ([6], [6]), ([7], [7]), ([8, 7], [7, 8]), ([7], [7]), ([9, 10, 7], [7, 9, 10]), ([11, 7], [7, 11]), ([12, 7], [7, 12]), ([13, 7], [7, 13]), ([7, 14], [7, 14]), ([15, 7], [15]), ([16], [16]), ([17, 16], [16, 17]), ([16], [16]), ([18, 19, 16], [16, 18, 19]), ([20, 16], [16, 20]), ([21, 16, 16], [16, 21]), ([22, 16], [16, 22]), ([16, 23], [16, 23]), ([24, 22], [24]), ([25], [25]), ([26, 25], [25, 26]), ([27, 25, 25], [25, 27]), ([28], [28]), ([29, 28], [28, 29]), ([28], [28]), ([31, 28], [28, 31]), ([30, 32, 28], [28, 30, 32]), ([33, 28], [28, 33]), ([28], [28]), ([35, 28], [28, 35]), ([28], [28]), ([36, 37, 28], [28, 36, 37]), ([38, 28], [28, 38]), ([34, 39, 28, 28], [28, 34, 39]), ([40, 28], [28, 40]), ([28, 41, 25], [25, 28, 41]), ([25, 42], [25, 42])])
def hasForm.B10 : List Nat := [0, 1, 0, 7, 15, 31, 63, 127, 255, 511, 255, 2047, 4095, 8191, 16383, 32767, 65535, 131071, 262143, 131071, 1048575, 2097151, 4194303, 8388607, 16777215, 33554431, 67108863, 134217727, 268435455, 536870911, 1073741823, 536870911, 2684354559, 8589934591, 17179869183, 536870911, 34896609279, 536870911, 241055039487, 515932946431, 1099511627775, 2199023255551, 4398046511103, 8796093022207]
theorem hasForm.tab10 : rtab .any (opsOf Try.f36 10) = hasForm.T10 := by kernel_rfl
theorem hasForm.bits10 : waitsOk hasForm.T10.2 hasForm.B10 = true := by kernel_rfl
def hasForm.T15 : Bool × List (List Nat × List Nat) := (true, [([], []), ([0], [0]), ([], []), ([1, 2], [1, 2]), ([3], [3]), ([4], [4]), ([5], [5]), ([6], [6]), ([7], [7]), ([8, 7], [7, 8]), ([7], [7]), ([9, 10, 7], [7, 9, 10]), ([11, 7], [7, 11]), ([12, 7], [7, 12]), ([13, 7], [7, 13]), ([7, 14], [7, 14]), ([15, 7], [15]), ([16], [16]), ([17, 16], [16, 17]), ([16], [16]), ([18, 19, 16], [16, 18, 19]), ([20, 16], [16, 20]), ([21, 16, 16], [16, 21]), ([22, 16], [16, 22]), ([16, 23], [16, 23]), ([24, 22], [24]), ([25], [25]), ([26, 25], [25, 26]), ([27, 25, 25], [25, 27]), ([28], [28]), ([29, 28], [28, 29]), ([28], [28]), ([31, 28], [28, 31]), ([30, 32, 28], [28, 30, 32]), ([33, 28], [28, 33]), ([28], [28]), ([35, 28], [28, 35]), ([28], [28]), ([36, 37, 28], [28, 36, 37]), ([38, 28], [28, 38]), ([34, 39, 28, 28], [28, 34, 39]), ([40, 28], [28, 40]), ([28, 41, 25], [25, 28, 41]), ([25, 42], [25, 42])])
def hasForm.B15 : List Nat := [0, 1, 0, 7, 15, 31, 63, 127, 255, 511, 255, 2047, 4095, 8191, 16383, 32767, 65535, 131071, 262143, 131071, 1048575, 2097151, 4194303, 8388607, 16777215, 33554431, 67108863, 134217727, 268435455, 536870911, 1073741823, 536870911, 2684354559, 8589934591, 17179869183, 536870911, 34896609279, 536870911, 241055039487, 515932946431, 1099511627775, 2199023255551, 4398046511103, 8796093022207]
theorem hasForm.tab15 : rtab .any (opsOf Try.f36 15) = hasForm.T15 := by kernel_rfl
theorem hasForm.bits15 : waitsOk hasForm.T15.2 hasForm.B15 = true := by kernel_rfl
def bm (n m : Nat) : Array Bool := ((List.range n).map fun i => m.testBit i).toArray
theorem InBox.drew {w W : World} {X : Nat} {A0 A1 A2 A3 A4 : Option Addr} {c0 c1 c2 c3 c4 : Nat} {g : Pg} (h : InBox w W X A0 A1 A2 A3 A4 c0 c1 c2 c3 c4 g) : InBox w W.drew X A0 A1 A2 A3 A4 c0 c1 c2 c3 c4 g := h.next (Below.refl W.heap.size W).drew
theorem InBox.drewN {w W : World} {X : Nat} {A0 A1 A2 A3 A4 : Option Addr} {c0 c1 c2 c3 c4 : Nat} {g : Pg} (h : InBox w W X A0 A1 A2 A3 A4 c0 c1 c2 c3 c4 g) (n : Nat) : InBox w (W.drewN n) X A0 A1 A2 A3 A4 c0 c1 c2 c3 c4 g := h.next (pw_below_drewN (Below.refl W.heap.size W) n)
set_option maxHeartbeats 8000000 in
set_option maxRecDepth 100000 in
theorem hasForm_any (w : World) (A0 A1 A2 A3 A4 : Option Addr) (c0 c1 c2 c3 c4 : Nat) (g : Pg) (h : InPg w A0 A1 A2 A3 A4 c0 c1 c2 c3 c4 g) (f : Fits g) :
 Calls Try.prog 36 #[valPg A0 A1 A2 A3 A4 c0 c1 c2 c3 c4 g] w fun e w' => e = .returned (.bool (formedB g)) ∧ Below w.heap.size w w' := by
 obtain ⟨fT, fN, fS, fM, fC, SS_, MM_⟩ := f
 unfold valPg
 generalize hFB : formedB g = FB
 have HFB := hid_ hFB; clear hFB
 have e1 : wrap64 ((g.T.length : Int) + (g.N.length : Int)) = (g.T.length : Int) + g.N.length := wrap_ _ (by omega) (by omega)
 have e2 : wrap64 ((g.T.length : Int) + (g.N.length : Int) + (g.S.length : Int)) = (g.T.length : Int) + g.N.length + g.S.length := wrap_ _ (by omega) (by omega)
 have e3 : wrap64 ((g.T.length : Int) + (g.N.length : Int) + (g.S.length : Int) + (g.M.length : Int)) = (g.T.length : Int) + g.N.length + g.S.length + g.M.length := wrap_ _ (by omega) (by omega)
 have E1 := hid_ e1
 have E2 := hid_ e2
 have E3 := hid_ e3
 clear e1 e2 e3
 by_cases h1 : g.dep < 0
 ·
  have e : FB = false := by rw [← HFB.out]; unfold formedB; rw [decide_eq_false (p := 0 ≤ g.dep ∧ g.dep ≤ 128 ∧ 0 ≤ g.loc ∧ g.loc ≤ 1024) (by omega)]; simp
  subst e
  go_enter Try.func36, Try.ntmps36
  go_wp2_with (fail)
  go_ret
  exact ⟨rfl, by go_grown⟩
 by_cases h2 : 128 < g.dep
 ·
  have e : FB = false := by rw [← HFB.out]; unfold formedB; rw [decide_eq_false (p := 0 ≤ g.dep ∧ g.dep ≤ 128 ∧ 0 ≤ g.loc ∧ g.loc ≤ 1024) (by omega)]; simp
  subst e
  have h1b : 0 ≤ g.dep := by omega
  go_enter Try.func36, Try.ntmps36
  go_wp2_with (fail)
  go_ret
  exact ⟨rfl, by go_grown⟩
 by_cases h3 : g.loc < 0
 ·
  have e : FB = false := by rw [← HFB.out]; unfold formedB; rw [decide_eq_false (p := 0 ≤ g.dep ∧ g.dep ≤ 128 ∧ 0 ≤ g.loc ∧ g.loc ≤ 1024) (by omega)]; simp
  subst e
  have h1b : 0 ≤ g.dep := by omega
  have h2b : g.dep ≤ 128 := by omega
  go_enter Try.func36, Try.ntmps36
  go_wp2_with (fail)
  go_ret
  exact ⟨rfl, by go_grown⟩
 by_cases h4 : 1024 < g.loc
 ·
  have e : FB = false := by rw [← HFB.out]; unfold formedB; rw [decide_eq_false (p := 0 ≤ g.dep ∧ g.dep ≤ 128 ∧ 0 ≤ g.loc ∧ g.loc ≤ 1024) (by omega)]; simp
  subst e
  have h1b : 0 ≤ g.dep := by omega
  have h2b : g.dep ≤ 128 := by omega
  have h3b : 0 ≤ g.loc := by omega
  go_enter Try.func36, Try.ntmps36
  go_wp2_with (fail)
  go_ret
  exact ⟨rfl, by go_grown⟩
 have h1b : 0 ≤ g.dep := by omega
 have h2b : g.dep ≤ 128 := by omega
 have h3b : 0 ≤ g.loc := by omega
 have h4b : g.loc ≤ 1024 := by omega
 by_cases h5 : (32768 : Int) < (g.C.length : Int)
 ·
  have e : FB = false := by rw [← HFB.out]; unfold formedB; rw [decide_eq_false (p := g.C.length ≤ 32768) (by omega)]; simp
  subst e
  go_enter Try.func36, Try.ntmps36
  go_wp2_with (fail)
  go_ret
  exact ⟨rfl, by go_grown⟩
 have h5b : (g.C.length : Int) ≤ 32768 := by omega
 by_cases h6 : (4096 : Int) < (g.T.length : Int)
 ·
  have e : FB = false := by rw [← HFB.out]; unfold formedB; rw [decide_eq_false (p := g.T.length + g.N.length + g.S.length + g.M.length ≤ 4096) (by omega)]; simp
  subst e
  go_enter Try.func36, Try.ntmps36
  go_wp2_with (fail)
  go_ret
  exact ⟨rfl, by go_grown⟩
 have h6b : (g.T.length : Int) ≤ 4096 := by omega
 by_cases h7 : (4096 : Int) < (g.N.length : Int)
 ·
  have e : FB = false := by rw [← HFB.out]; unfold formedB; rw [decide_eq_false (p := g.T.length + g.N.length + g.S.length + g.M.length ≤ 4096) (by omega)]; simp
  subst e
  go_enter Try.func36, Try.ntmps36
  go_wp2_with (fail)
  go_ret
  exact ⟨rfl, by go_grown⟩
 have h7b : (g.N.length : Int) ≤ 4096 := by omega
 by_cases h8 : (4096 : Int) < (g.S.length : Int)
 ·
  have e : FB = false := by rw [← HFB.out]; unfold formedB; rw [decide_eq_false (p := g.T.length + g.N.length + g.S.length + g.M.length ≤ 4096) (by omega)]; simp
  subst e
  go_enter Try.func36, Try.ntmps36
  go_wp2_with (fail)
  go_ret
  exact ⟨rfl, by go_grown⟩
 have h8b : (g.S.length : Int) ≤ 4096 := by omega
 by_cases h9 : (4096 : Int) < (g.M.length : Int)
 ·
  have e : FB = false := by rw [← HFB.out]; unfold formedB; rw [decide_eq_false (p := g.T.length + g.N.length + g.S.length + g.M.length ≤ 4096) (by omega)]; simp
  subst e
  go_enter Try.func36, Try.ntmps36
  go_wp2_with (fail)
  go_ret
  exact ⟨rfl, by go_grown⟩
 have h9b : (g.M.length : Int) ≤ 4096 := by omega
 by_cases h10 : (4096 : Int) < (g.T.length : Int) + g.N.length + g.S.length + g.M.length
 ·
  have e : FB = false := by rw [← HFB.out]; unfold formedB; rw [decide_eq_false (p := g.T.length + g.N.length + g.S.length + g.M.length ≤ 4096) (by omega)]; simp
  subst e
  have e1 := E1.out
  have e2 := E2.out
  have e3 := E3.out
  go_enter Try.func36, Try.ntmps36
  go_wp2_with (fail)
  go_ret
  exact ⟨rfl, by go_grown⟩
 have h10b : (g.T.length : Int) + g.N.length + g.S.length + g.M.length ≤ 4096 := by omega
 have hB := InBox.new (Below.refl w.heap.size w) h
 clear h
 have e1 := E1.out
 have e2 := E2.out
 have e3 := E3.out
 go_enter Try.func36, Try.ntmps36
 go_wp2_with (fail)
 generalize (w.alloc (.cells #[.slice A0 g.T.length c0, .slice A1 g.N.length c1, .slice A2 g.S.length c2, .slice A3 g.M.length c3, .slice A4 g.C.length c4, .int .i64 g.dep, .int .i64 g.loc] 32 (0, 0))) = W0 at hB ⊢
 have HF1 : Hid ((risesB cmpS okS none g.T && (risesB cmpI okI none g.N && (risesB (cmpL cmpS) okSS none g.S && (risesB (cmpL cmpI) okII none g.M && g.C.all instrOK)))) = FB) := by
  refine hid_ ?_
  have := HFB.out
  unfold formedB at this
  rw [decide_eq_true (show g.T.length + g.N.length + g.S.length + g.M.length ≤ 4096 by omega), decide_eq_true (show g.C.length ≤ 32768 by omega), decide_eq_true (show 0 ≤ g.dep ∧ g.dep ≤ 128 ∧ 0 ≤ g.loc ∧ g.loc ≤ 1024 by omega)] at this
  simpa using this
 clear e1 e2 e3 E1 E2 E3 HFB h1 h2 h3 h4 h5 h6 h7 h8 h9 h10 h1b h2b h3b h4b h5b h6b h7b h8b h9b h10b
 refine (textsFit_any W0 A0 c0 g.T hB.inp.T hB.inp.lT fT).mono ?_
 rintro e W1 ⟨rfl, dr⟩
 have hB1 := hB.next dr.below
 clear hB dr
 cases hT : risesB cmpS okS none g.T with
 | false =>
  have e : FB = false := by rw [← HF1.out, hT]; rfl
  subst e
  have bel := hB1.below
  clear hB1 HF1
  go_wp2_with (fail)
  go_ret
  exact ⟨rfl, bel⟩
 | true =>
  have HF2 : Hid ((risesB cmpI okI none g.N && (risesB (cmpL cmpS) okSS none g.S && (risesB (cmpL cmpI) okII none g.M && g.C.all instrOK))) = FB) := by
   have := HF1.out
   rw [hT, Bool.true_and] at this
   exact hid_ this
  clear HF1 hT
  obtain ⟨q0, q1, q2, q3, q4, q5, q6⟩ := boxed hB1.box
  go_wp2_with (fail)
  refine (numsFit_any W1 A1 c1 g.N hB1.inp.N hB1.inp.lN fN).mono ?_
  rintro e W2 ⟨rfl, dr⟩
  have hB2 := hB1.next dr.below
  clear hB1 dr q0 q1 q2 q3 q4 q5 q6
  cases hN : risesB cmpI okI none g.N with
  | false =>
   have e : FB = false := by rw [← HF2.out, hN]; rfl
   subst e
   have bel := hB2.below
   clear hB2 HF2
   go_wp2_with (fail)
   go_ret
   exact ⟨rfl, bel⟩
  | true =>
   have HF3 : Hid ((risesB (cmpL cmpS) okSS none g.S && (risesB (cmpL cmpI) okII none g.M && g.C.all instrOK)) = FB) := by
    have := HF2.out
    rw [hN, Bool.true_and] at this
    exact hid_ this
   clear HF2 hN
   go_wp2_with (fail)
   go_loopw [3] (fun i wr => ∃ k : Nat, k ≤ g.S.length ∧ i = .int .i64 k ∧ InBox w wr w.heap.size A0 A1 A2 A3 A4 c0 c1 c2 c3 c4 g ∧ (risesB (cmpL cmpS) okSS (if k = 0 then none else g.S[k - 1]?) (g.S.drop k) && (risesB (cmpL cmpI) okII none g.M && g.C.all instrOK)) = FB) (fun i _ => g.S.length - (intOf i).toNat)
   case atStart => exact ⟨0, by omega, rfl, hB2, HF3.out⟩
   case round =>
    clear hB2 HF3
    obtain ⟨k, hk, rfl, hB, he⟩ := hrel
    have HE := hid_ he; clear he
    obtain ⟨q0, q1, q2, q3, q4, q5, q6⟩ := boxed hB.box
    by_cases hlt : k < g.S.length
    ·
     obtain ⟨ad, B0, b0, rfl, hcell, hcap, hK⟩ := at_L2 hB.inp.S (k : Int) (by omega) (by omega)
     rw [Int.toNat_natCast] at hcell
     have hx : rd_L2 g.S (k : Int) = g.S[k] := by simp [rd_L2, hlt]
     rw [hx] at hcell hcap hK
     have he := HE.out
     rw [risesB_at _ _ _ _ hlt, Bool.and_assoc, Bool.and_assoc] at he
     clear HE hx
     generalize hR : (risesB (cmpL cmpS) okSS (if k + 1 = 0 then none else g.S[k + 1 - 1]?) (g.S.drop (k + 1)) && (risesB (cmpL cmpI) okII none g.M && g.C.all instrOK)) = R at he
     have HR := hid_ hR; clear hR
     have hxl := SS_ _ (List.getElem_mem hlt)
     have hlkI : (k : Int) < (g.S.length : Int) := by omega
     have hk0 : 0 ≤ (k : Int) := by omega
     have hx0 : Hid (0 < k → ∃ (j : Nat) (y : List ByteArray) (B1 : Option Addr) (b1 : Nat), k = j + 1 ∧ g.S[k - 1]? = some y ∧ y.length ≤ 140737488351232 ∧ wr.cell? (ad.add j) = some (.slice B1 y.length b1) ∧ y.length ≤ b1 ∧ Kd.string.C wr B1 y.length y) := hid_ fun h0 => by
      obtain ⟨ad2, B1, b1, e2, hc, hy, hY⟩ := at_L2 hB.inp.S ((k - 1 : Nat) : Int) (by omega) (by omega)
      obtain rfl := Option.some.inj e2
      rw [Int.toNat_natCast, show rd_L2 g.S ((k - 1 : Nat) : Int) = g.S[k - 1] by simp [rd_L2, show k - 1 < g.S.length by omega]] at hc
      rw [show rd_L2 g.S ((k - 1 : Nat) : Int) = g.S[k - 1] by simp [rd_L2, show k - 1 < g.S.length by omega]] at hy hY
      exact ⟨k - 1, g.S[k - 1], B1, b1, by omega, List.getElem?_eq_getElem (by omega), SS_ _ (List.getElem_mem _), hc, hy, hY⟩
     have hp : (if k = 0 then true else !decide (0 ≤ cmpL cmpS (g.S[k - 1]'(by omega)) g.S[k])) = (match g.S[k - 1]? with | none => true | some y => if k = 0 then true else !decide (0 ≤ cmpL cmpS y g.S[k])) := by
      rw [List.getElem?_eq_getElem (show k - 1 < g.S.length by omega)]
     rw [hp] at he
     clear hp
     generalize g.S[k - 1]? = Y at he hx0
     generalize g.S[k] = x at hcell hcap hK he hxl
     have HE := hid_ he; clear he
     have hBd := hB.drew
     have hK5 : Kd.string.C wr.drew B0 x.length x := Kd.C_drew hK
     by_cases hx0l : x.length < 1
     ·
      have e : FB = false := by rw [← HE.out]; unfold okSS; rw [decide_eq_false (p := 1 ≤ x.length ∧ x.length ≤ 1000) (by omega)]; rfl
      subst e
      clear HE HR hx0
      have d0 : decide ((x.length : Int) < 1) = true := decide_eq_true (by omega)
      have d1 : decide (x.length < 1) = true := decide_eq_true hx0l
      clear hx0l
      go_wp2_with (fail)
      go_region
      go_wp2_with (fail)
      go_ret
      exact ⟨rfl, hBd.below⟩
     have d0 : decide ((x.length : Int) < 1) = false := decide_eq_false (by omega)
     have d1 : decide (x.length < 1) = false := decide_eq_false hx0l
     by_cases hx1 : 1000 < x.length
     ·
      have e : FB = false := by rw [← HE.out]; unfold okSS; rw [decide_eq_false (p := 1 ≤ x.length ∧ x.length ≤ 1000) (by omega)]; rfl
      subst e
      clear HE HR hx0
      have d2 : decide (1000 < (x.length : Int)) = true := decide_eq_true (by omega)
      have d3 : decide (1000 < x.length) = true := decide_eq_true hx1
      clear hx0l hx1
      go_wp2_with (fail)
      go_region
      go_wp2_with (fail)
      go_ret
      exact ⟨rfl, hBd.below⟩
     have d2 : decide (1000 < (x.length : Int)) = false := decide_eq_false (by omega)
     have d3 : decide (1000 < x.length) = false := decide_eq_false hx1
     have hxd : decide (1 ≤ x.length ∧ x.length ≤ 1000) = true := decide_eq_true (by omega)
     clear hx0l hx1
     cases hT : risesB cmpS okS none x with
     | false =>
      have e : FB = false := by rw [← HE.out]; unfold okSS; rw [hxd, hT]; rfl
      subst e
      clear HE HR hx0 hxd
      go_wp2_with (fail)
      refine start_ (n := 44) (S := fun w' => w'.cell? ⟨w.heap.size, 2, none⟩ = some (.slice (some ad) g.S.length c2) ∧ w'.cell? (ad.add k) = some (.slice B0 x.length b0)) (ds := []) (bm 44 0) (by kernel_rfl) rfl (by kernel_rfl) ⟨q2, hcell⟩ (fun hHeld => ?_)
      refine with_tabW hasForm.tab10 hasForm.bits10 (fun HT_ HW_ => ?_)
      generalize wr.drew = w5 at hHeld hBd hK5 ⊢
      refine pure_ (i := 0) (N := some 91) (v := ?_) (a' := ?_) (bm 44 1) rfl rfl (any_of HT_.out (by kernel_rfl)) (fun _ _ _ h => h) (Or.inl ⟨by rfl, ?_⟩) ?_ ?_
      rotate_left
      ·
       intro w'
       go_simp
       with_reducible rfl
      rotate_left
      ·
       simp only [Act.put, List.setIfInBounds_toArray, List.set_cons_zero, List.set_cons_succ, i64_w, i32_w]
       rfl
      refine pure_ (i := 2) (N := some 93) (v := ?_) (a' := ?_) (bm 44 5) rfl rfl (any_of HT_.out (by kernel_rfl)) (fun _ _ _ h => h) (Or.inl ⟨by rfl, ?_⟩) ?_ ?_
      rotate_left
      ·
       intro w'
       go_simp
       with_reducible rfl
      rotate_left
      ·
       simp only [Act.put, List.setIfInBounds_toArray, List.set_cons_zero, List.set_cons_succ, i64_w, i32_w]
       rfl
      refine take_ (i := 1) (N := some 92) (v := ?_) (a' := ?_) (bm 44 7) rfl rfl (take_ofW HT_.out HW_.out (by kernel_rfl)) (fun _ _ _ h => h) (Or.inl ⟨by rfl, ?_⟩) hHeld ?_ ?_
      rotate_left
      ·
       rintro w' ⟨s0, s1⟩
       go_simp
       with_reducible rfl
      rotate_left
      ·
       simp only [Act.put, List.setIfInBounds_toArray, List.set_cons_zero, List.set_cons_succ, i64_w, i32_w]
       rfl
      refine pure_ (i := 3) (N := some 94) (v := ?_) (a' := ?_) (bm 44 15) rfl rfl (any_of HT_.out (by kernel_rfl)) (fun _ _ _ h => h) (Or.inl ⟨by rfl, ?_⟩) ?_ ?_
      rotate_left
      ·
       intro w'
       go_simp
       with_reducible rfl
      rotate_left
      ·
       simp only [Act.put, List.setIfInBounds_toArray, List.set_cons_zero, List.set_cons_succ, i64_w, i32_w]
       rfl
      refine take_ (i := 4) (N := some 95) (v := ?_) (a' := ?_) (bm 44 31) rfl rfl (take_ofW HT_.out HW_.out (by kernel_rfl)) (fun _ _ _ h => h) (Or.inl ⟨by rfl, ?_⟩) hHeld ?_ ?_
      rotate_left
      ·
       rintro w' ⟨s0, s1⟩
       go_simp
       with_reducible rfl
      rotate_left
      ·
       simp only [Act.put, List.setIfInBounds_toArray, List.set_cons_zero, List.set_cons_succ, i64_w, i32_w]
       rfl
      refine pure_ (i := 5) (N := some 96) (v := ?_) (a' := ?_) (bm 44 63) rfl rfl (any_of HT_.out (by kernel_rfl)) (fun _ _ _ h => h) (Or.inl ⟨by rfl, ?_⟩) ?_ ?_
      rotate_left
      ·
       intro w'
       go_simp
       with_reducible rfl
      rotate_left
      ·
       simp only [Act.put, List.setIfInBounds_toArray, List.set_cons_zero, List.set_cons_succ, i64_w, i32_w]
       rfl
      refine pure_ (i := 6) (N := some 97) (v := ?_) (a' := ?_) (bm 44 127) rfl rfl (any_of HT_.out (by kernel_rfl)) (fun _ _ _ h => h) (Or.inl ⟨by rfl, ?_⟩) ?_ ?_
      rotate_left
      ·
       intro w'
       go_simp
       with_reducible rfl
      rotate_left
      ·
       simp only [Act.put, List.setIfInBounds_toArray, List.set_cons_zero, List.set_cons_succ, i64_w, i32_w]
       rfl
      refine pure_ (i := 7) (N := some 98) (v := ?_) (a' := ?_) (bm 44 255) rfl rfl (any_of HT_.out (by kernel_rfl)) (fun _ _ _ h => h) (Or.inl ⟨by rfl, ?_⟩) ?_ ?_
      rotate_left
      ·
       intro w'
       go_simp
       with_reducible rfl
      rotate_left
      ·
       simp only [Act.put, List.setIfInBounds_toArray, List.set_cons_zero, List.set_cons_succ, i64_w, i32_w]
       rfl
      refine pure_ (i := 8) (N := some 99) (v := ?_) (a' := ?_) (bm 44 511) rfl rfl (any_of HT_.out (by kernel_rfl)) (fun _ _ _ h => h) (Or.inl ⟨by rfl, ?_⟩) ?_ ?_
      rotate_left
      ·
       intro w'
       go_simp
       with_reducible rfl
      rotate_left
      ·
       simp only [Act.put, List.setIfInBounds_toArray, List.set_cons_zero, List.set_cons_succ, i64_w, i32_w]
       rfl
      refine pure_ (i := 10) (N := some 101) (v := ?_) (a' := ?_) (bm 44 1535) rfl rfl (any_of HT_.out (by kernel_rfl)) (fun _ _ _ h => h) (Or.inl ⟨by rfl, ?_⟩) ?_ ?_
      rotate_left
      ·
       intro w'
       go_simp
       with_reducible rfl
      rotate_left
      ·
       simp only [Act.put, List.setIfInBounds_toArray, List.set_cons_zero, List.set_cons_succ, i64_w, i32_w]
       rfl
      refine take_ (i := 9) (N := some 100) (v := ?_) (a' := ?_) (bm 44 2047) rfl rfl (take_ofW HT_.out HW_.out (by kernel_rfl)) (fun _ _ _ h => h) (Or.inl ⟨by rfl, ?_⟩) hHeld ?_ ?_
      rotate_left
      ·
       rintro w' ⟨s0, s1⟩
       go_simp
       with_reducible rfl
      rotate_left
      ·
       simp only [Act.put, List.setIfInBounds_toArray, List.set_cons_zero, List.set_cons_succ, i64_w, i32_w]
       rfl
      refine pure_ (i := 11) (N := some 102) (v := ?_) (a' := ?_) (bm 44 4095) rfl rfl (any_of HT_.out (by kernel_rfl)) (fun _ _ _ h => h) (Or.inl ⟨by rfl, ?_⟩) ?_ ?_
      rotate_left
      ·
       intro w'
       go_simp
       with_reducible rfl
      rotate_left
      ·
       simp only [Act.put, List.setIfInBounds_toArray, List.set_cons_zero, List.set_cons_succ, i64_w, i32_w]
       rfl
      refine take_ (i := 12) (N := some 103) (v := ?_) (a' := ?_) (bm 44 8191) rfl rfl (take_ofW HT_.out HW_.out (by kernel_rfl)) (fun _ _ _ h => h) (Or.inl ⟨by rfl, ?_⟩) hHeld ?_ ?_
      rotate_left
      ·
       rintro w' ⟨s0, s1⟩
       go_simp
       with_reducible rfl
      rotate_left
      ·
       simp only [Act.put, List.setIfInBounds_toArray, List.set_cons_zero, List.set_cons_succ, i64_w, i32_w]
       rfl
      refine pure_ (i := 13) (N := some 104) (v := ?_) (a' := ?_) (bm 44 16383) rfl rfl (any_of HT_.out (by kernel_rfl)) (fun _ _ _ h => h) (Or.inl ⟨by rfl, ?_⟩) ?_ ?_
      rotate_left
      ·
       intro w'
       go_simp
       with_reducible rfl
      rotate_left
      ·
       simp only [Act.put, List.setIfInBounds_toArray, List.set_cons_zero, List.set_cons_succ, i64_w, i32_w]
       rfl
      refine pure_ (i := 14) (N := some 105) (v := ?_) (a' := ?_) (bm 44 32767) rfl rfl (any_of HT_.out (by kernel_rfl)) (fun _ _ _ h => h) (Or.inl ⟨by rfl, ?_⟩) ?_ ?_
      rotate_left
      ·
       intro w'
       go_simp
       with_reducible rfl
      rotate_left
      ·
       simp only [Act.put, List.setIfInBounds_toArray, List.set_cons_zero, List.set_cons_succ, i64_w, i32_w]
       rfl
      refine pure_ (i := 15) (N := some 106) (v := ?_) (a' := ?_) (bm 44 65535) rfl rfl (any_of HT_.out (by kernel_rfl)) (fun _ _ _ h => h) (Or.inl ⟨by rfl, ?_⟩) ?_ ?_
      rotate_left
      ·
       intro w'
       go_simp
       with_reducible rfl
      rotate_left
      ·
       simp only [Act.put, List.setIfInBounds_toArray, List.set_cons_zero, List.set_cons_succ, i64_w, i32_w]
       rfl
      refine pure_ (i := 16) (N := some 107) (v := ?_) (a' := ?_) (bm 44 131071) rfl rfl (any_of HT_.out (by kernel_rfl)) (fun _ _ _ h => h) (Or.inl ⟨by rfl, ?_⟩) ?_ ?_
      rotate_left
      ·
       intro w'
       go_simp
       with_reducible rfl
      rotate_left
      ·
       simp only [Act.put, List.setIfInBounds_toArray, List.set_cons_zero, List.set_cons_succ, i64_w, i32_w]
       rfl
      refine pure_ (i := 17) (N := some 108) (v := ?_) (a' := ?_) (bm 44 262143) rfl rfl (any_of HT_.out (by kernel_rfl)) (fun _ _ _ h => h) (Or.inl ⟨by rfl, ?_⟩) ?_ ?_
      rotate_left
      ·
       intro w'
       go_simp
       with_reducible rfl
      rotate_left
      ·
       simp only [Act.put, List.setIfInBounds_toArray, List.set_cons_zero, List.set_cons_succ, i64_w, i32_w]
       rfl
      refine pure_ (i := 19) (N := some 110) (v := ?_) (a' := ?_) (bm 44 786431) rfl rfl (any_of HT_.out (by kernel_rfl)) (fun _ _ _ h => h) (Or.inl ⟨by rfl, ?_⟩) ?_ ?_
      rotate_left
      ·
       intro w'
       go_simp
       with_reducible rfl
      rotate_left
      ·
       simp only [Act.put, List.setIfInBounds_toArray, List.set_cons_zero, List.set_cons_succ, i64_w, i32_w]
       rfl
      refine take_ (i := 18) (N := some 109) (v := ?_) (a' := ?_) (bm 44 1048575) rfl rfl (take_ofW HT_.out HW_.out (by kernel_rfl)) (fun _ _ _ h => h) (Or.inl ⟨by rfl, ?_⟩) hHeld ?_ ?_
      rotate_left
      ·
       rintro w' ⟨s0, s1⟩
       go_simp
       with_reducible rfl
      rotate_left
      ·
       simp only [Act.put, List.setIfInBounds_toArray, List.set_cons_zero, List.set_cons_succ, i64_w, i32_w]
       rfl
      refine pure_ (i := 20) (N := some 111) (v := ?_) (a' := ?_) (bm 44 2097151) rfl rfl (any_of HT_.out (by kernel_rfl)) (fun _ _ _ h => h) (Or.inl ⟨by rfl, ?_⟩) ?_ ?_
      rotate_left
      ·
       intro w'
       go_simp
       with_reducible rfl
      rotate_left
      ·
       simp only [Act.put, List.setIfInBounds_toArray, List.set_cons_zero, List.set_cons_succ, i64_w, i32_w]
       rfl
      refine take_ (i := 21) (N := some 112) (v := ?_) (a' := ?_) (bm 44 4194303) rfl rfl (take_ofW HT_.out HW_.out (by kernel_rfl)) (fun _ _ _ h => h) (Or.inl ⟨by rfl, ?_⟩) hHeld ?_ ?_
      rotate_left
      ·
       rintro w' ⟨s0, s1⟩
       go_simp
       with_reducible rfl
      rotate_left
      ·
       simp only [Act.put, List.setIfInBounds_toArray, List.set_cons_zero, List.set_cons_succ, i64_w, i32_w]
       rfl
      refine one_ (i := 22) (N := some 113) (bm 44 8388607) rfl rfl (one_of HT_.out (by kernel_rfl)) (by decide) (fun K hK => ?_)
      refine goes_ Try.func64 (by kernel_rfl) rfl #[.slice B0 x.length b0] (by rfl) rfl rfl (by (try simp only [List.map_toArray, List.map_cons, List.map_nil]); first | done | rfl) ?_
      have HTc := textsFit_any w5 B0 b0 x hK5 hcap (by omega)
      rw [hT] at HTc
      with_reducible refine HTc.mono ?_
      rintro e w' ⟨rfl, ⟨nd1, rfl⟩⟩
      refine ⟨_, rfl, ?_⟩
      refine hK.out _ _ hHeld (fun hHeld => ?_)
      clear hK K
      refine norm_ (a' := ?_) ?_ ?_
      rotate_left
      ·
       show Act.put _ (some 113) _ = _
       simp only [Act.put, List.setIfInBounds_toArray, List.set_cons_zero, List.set_cons_succ, i64_w, i32_w]
       rfl
      refine pure_ (i := 23) (N := some 114) (v := ?_) (a' := ?_) (bm 44 16777215) rfl rfl (any_of HT_.out (by kernel_rfl)) (fun _ _ _ h => h) (Or.inl ⟨by rfl, ?_⟩) ?_ ?_
      rotate_left
      ·
       intro w'
       go_simp
       with_reducible rfl
      rotate_left
      ·
       simp only [Act.put, List.setIfInBounds_toArray, List.set_cons_zero, List.set_cons_succ, i64_w, i32_w]
       rfl
      refine pure_ (i := 24) (N := some 115) (v := ?_) (a' := ?_) (bm 44 33554431) rfl rfl (any_of HT_.out (by kernel_rfl)) (fun _ _ _ h => h) (Or.inl ⟨by rfl, ?_⟩) ?_ ?_
      rotate_left
      ·
       intro w'
       go_simp
       with_reducible rfl
      rotate_left
      ·
       simp only [Act.put, List.setIfInBounds_toArray, List.set_cons_zero, List.set_cons_succ, i64_w, i32_w]
       rfl
      refine pure_ (i := 25) (N := some 116) (v := ?_) (a' := ?_) (bm 44 67108863) rfl rfl (any_of HT_.out (by kernel_rfl)) (fun _ _ _ h => h) (Or.inl ⟨by rfl, ?_⟩) ?_ ?_
      rotate_left
      ·
       intro w'
       go_simp
       with_reducible rfl
      rotate_left
      ·
       simp only [Act.put, List.setIfInBounds_toArray, List.set_cons_zero, List.set_cons_succ, i64_w, i32_w]
       rfl
      refine pure_ (i := 26) (N := some 117) (v := undef) (a' := ?_) (bm 44 134217727) rfl rfl (any_of HT_.out (by kernel_rfl)) (fun _ _ _ h => h) (Or.inr ⟨by rfl, rfl⟩) ?_ ?_
      rotate_left
      ·
       simp only [Act.put, List.setIfInBounds_toArray, List.set_cons_zero, List.set_cons_succ, i64_w, i32_w]
       rfl
      refine pure_ (i := 27) (N := some 118) (v := undef) (a' := ?_) (bm 44 268435455) rfl rfl (any_of HT_.out (by kernel_rfl)) (fun _ _ _ h => h) (Or.inr ⟨by rfl, rfl⟩) ?_ ?_
      rotate_left
      ·
       simp only [Act.put, List.setIfInBounds_toArray, List.set_cons_zero, List.set_cons_succ, i64_w, i32_w]
       rfl
      refine pure_ (i := 28) (N := some 119) (v := undef) (a' := ?_) (bm 44 536870911) rfl rfl (any_of HT_.out (by kernel_rfl)) (fun _ _ _ h => h) (Or.inr ⟨by rfl, rfl⟩) ?_ ?_
      rotate_left
      ·
       simp only [Act.put, List.setIfInBounds_toArray, List.set_cons_zero, List.set_cons_succ, i64_w, i32_w]
       rfl
      refine pure_ (i := 29) (N := some 120) (v := undef) (a' := ?_) (bm 44 1073741823) rfl rfl (any_of HT_.out (by kernel_rfl)) (fun _ _ _ h => h) (Or.inr ⟨by rfl, rfl⟩) ?_ ?_
      rotate_left
      ·
       simp only [Act.put, List.setIfInBounds_toArray, List.set_cons_zero, List.set_cons_succ, i64_w, i32_w]
       rfl
      refine pure_ (i := 30) (N := some 121) (v := undef) (a' := ?_) (bm 44 2147483647) rfl rfl (any_of HT_.out (by kernel_rfl)) (fun _ _ _ h => h) (Or.inr ⟨by rfl, rfl⟩) ?_ ?_
      rotate_left
      ·
       simp only [Act.put, List.setIfInBounds_toArray, List.set_cons_zero, List.set_cons_succ, i64_w, i32_w]
       rfl
      refine pure_ (i := 31) (N := some 122) (v := undef) (a' := ?_) (bm 44 4294967295) rfl rfl (any_of HT_.out (by kernel_rfl)) (fun _ _ _ h => h) (Or.inr ⟨by rfl, rfl⟩) ?_ ?_
      rotate_left
      ·
       simp only [Act.put, List.setIfInBounds_toArray, List.set_cons_zero, List.set_cons_succ, i64_w, i32_w]
       rfl
      refine pure_ (i := 32) (N := some 123) (v := undef) (a' := ?_) (bm 44 8589934591) rfl rfl (any_of HT_.out (by kernel_rfl)) (fun _ _ _ h => h) (Or.inr ⟨by rfl, rfl⟩) ?_ ?_
      rotate_left
      ·
       simp only [Act.put, List.setIfInBounds_toArray, List.set_cons_zero, List.set_cons_succ, i64_w, i32_w]
       rfl
      refine pure_ (i := 33) (N := some 124) (v := undef) (a' := ?_) (bm 44 17179869183) rfl rfl (any_of HT_.out (by kernel_rfl)) (fun _ _ _ h => h) (Or.inr ⟨by rfl, rfl⟩) ?_ ?_
      rotate_left
      ·
       simp only [Act.put, List.setIfInBounds_toArray, List.set_cons_zero, List.set_cons_succ, i64_w, i32_w]
       rfl
      refine pure_ (i := 34) (N := some 125) (v := undef) (a' := ?_) (bm 44 34359738367) rfl rfl (any_of HT_.out (by kernel_rfl)) (fun _ _ _ h => h) (Or.inr ⟨by rfl, rfl⟩) ?_ ?_
      rotate_left
      ·
       simp only [Act.put, List.setIfInBounds_toArray, List.set_cons_zero, List.set_cons_succ, i64_w, i32_w]
       rfl
      refine pure_ (i := 35) (N := some 126) (v := undef) (a' := ?_) (bm 44 68719476735) rfl rfl (any_of HT_.out (by kernel_rfl)) (fun _ _ _ h => h) (Or.inr ⟨by rfl, rfl⟩) ?_ ?_
      rotate_left
      ·
       simp only [Act.put, List.setIfInBounds_toArray, List.set_cons_zero, List.set_cons_succ, i64_w, i32_w]
       rfl
      refine pure_ (i := 36) (N := some 127) (v := undef) (a' := ?_) (bm 44 137438953471) rfl rfl (any_of HT_.out (by kernel_rfl)) (fun _ _ _ h => h) (Or.inr ⟨by rfl, rfl⟩) ?_ ?_
      rotate_left
      ·
       simp only [Act.put, List.setIfInBounds_toArray, List.set_cons_zero, List.set_cons_succ, i64_w, i32_w]
       rfl
      refine pure_ (i := 37) (N := some 128) (v := undef) (a' := ?_) (bm 44 274877906943) rfl rfl (any_of HT_.out (by kernel_rfl)) (fun _ _ _ h => h) (Or.inr ⟨by rfl, rfl⟩) ?_ ?_
      rotate_left
      ·
       simp only [Act.put, List.setIfInBounds_toArray, List.set_cons_zero, List.set_cons_succ, i64_w, i32_w]
       rfl
      refine pure_ (i := 38) (N := some 129) (v := undef) (a' := ?_) (bm 44 549755813887) rfl rfl (any_of HT_.out (by kernel_rfl)) (fun _ _ _ h => h) (Or.inr ⟨by rfl, rfl⟩) ?_ ?_
      rotate_left
      ·
       simp only [Act.put, List.setIfInBounds_toArray, List.set_cons_zero, List.set_cons_succ, i64_w, i32_w]
       rfl
      refine pure_ (i := 39) (N := some 130) (v := undef) (a' := ?_) (bm 44 1099511627775) rfl rfl (any_of HT_.out (by kernel_rfl)) (fun _ _ _ h => h) (Or.inr ⟨by rfl, rfl⟩) ?_ ?_
      rotate_left
      ·
       simp only [Act.put, List.setIfInBounds_toArray, List.set_cons_zero, List.set_cons_succ, i64_w, i32_w]
       rfl
      refine pure_ (i := 40) (N := some 131) (v := undef) (a' := ?_) (bm 44 2199023255551) rfl rfl (any_of HT_.out (by kernel_rfl)) (fun _ _ _ h => h) (Or.inr ⟨by rfl, rfl⟩) ?_ ?_
      rotate_left
      ·
       simp only [Act.put, List.setIfInBounds_toArray, List.set_cons_zero, List.set_cons_succ, i64_w, i32_w]
       rfl
      refine pure_ (i := 41) (N := some 132) (v := undef) (a' := ?_) (bm 44 4398046511103) rfl rfl (any_of HT_.out (by kernel_rfl)) (fun _ _ _ h => h) (Or.inr ⟨by rfl, rfl⟩) ?_ ?_
      rotate_left
      ·
       simp only [Act.put, List.setIfInBounds_toArray, List.set_cons_zero, List.set_cons_succ, i64_w, i32_w]
       rfl
      refine pure_ (i := 42) (N := some 133) (v := undef) (a' := ?_) (bm 44 8796093022207) rfl rfl (any_of HT_.out (by kernel_rfl)) (fun _ _ _ h => h) (Or.inr ⟨by rfl, rfl⟩) ?_ ?_
      rotate_left
      ·
       simp only [Act.put, List.setIfInBounds_toArray, List.set_cons_zero, List.set_cons_succ, i64_w, i32_w]
       rfl
      refine pure_ (i := 43) (N := some 134) (v := ?_) (a' := ?_) (bm 44 17592186044415) rfl rfl (any_of HT_.out (by kernel_rfl)) (fun _ _ _ h => h) (Or.inl ⟨by rfl, ?_⟩) ?_ ?_
      rotate_left
      ·
       intro w'
       go_simp
       with_reducible rfl
      rotate_left
      ·
       simp only [Act.put, List.setIfInBounds_toArray, List.set_cons_zero, List.set_cons_succ, i64_w, i32_w]
       rfl
      refine done_ (done_of HT_.out (by kernel_rfl)) ?_
      go_wp2_with (fail)
      go_ret
      exact ⟨rfl, (hBd.drewN nd1).below⟩
     | true =>
      have hok : okSS x = true := by unfold okSS; rw [hxd, hT]; rfl
      by_cases hk1 : k = 0
      ·
       have he : (true && R) = FB := by rw [← HE.out, hok]; cases Y <;> simp [hk1]
       rw [Bool.true_and] at he
       have HE2 := hid_ he
       clear HE hx0 he hxd hok
       have d4 : decide ((0 : Int) < (k : Int)) = false := decide_eq_false (by omega)
       have d5 : decide (0 < k) = false := decide_eq_false (by omega)
       clear hk1
       go_wp2_with (fail)
       refine start_ (n := 44) (S := fun w' => w'.cell? ⟨w.heap.size, 2, none⟩ = some (.slice (some ad) g.S.length c2) ∧ w'.cell? (ad.add k) = some (.slice B0 x.length b0)) (ds := []) (bm 44 0) (by kernel_rfl) rfl (by kernel_rfl) ⟨q2, hcell⟩ (fun hHeld => ?_)
       refine with_tabW hasForm.tab10 hasForm.bits10 (fun HT_ HW_ => ?_)
       generalize wr.drew = w5 at hHeld hBd hK5 ⊢
       refine pure_ (i := 0) (N := some 91) (v := ?_) (a' := ?_) (bm 44 1) rfl rfl (any_of HT_.out (by kernel_rfl)) (fun _ _ _ h => h) (Or.inl ⟨by rfl, ?_⟩) ?_ ?_
       rotate_left
       ·
        intro w'
        go_simp
        with_reducible rfl
       rotate_left
       ·
        simp only [Act.put, List.setIfInBounds_toArray, List.set_cons_zero, List.set_cons_succ, i64_w, i32_w]
        rfl
       refine pure_ (i := 2) (N := some 93) (v := ?_) (a' := ?_) (bm 44 5) rfl rfl (any_of HT_.out (by kernel_rfl)) (fun _ _ _ h => h) (Or.inl ⟨by rfl, ?_⟩) ?_ ?_
       rotate_left
       ·
        intro w'
        go_simp
        with_reducible rfl
       rotate_left
       ·
        simp only [Act.put, List.setIfInBounds_toArray, List.set_cons_zero, List.set_cons_succ, i64_w, i32_w]
        rfl
       refine take_ (i := 1) (N := some 92) (v := ?_) (a' := ?_) (bm 44 7) rfl rfl (take_ofW HT_.out HW_.out (by kernel_rfl)) (fun _ _ _ h => h) (Or.inl ⟨by rfl, ?_⟩) hHeld ?_ ?_
       rotate_left
       ·
        rintro w' ⟨s0, s1⟩
        go_simp
        with_reducible rfl
       rotate_left
       ·
        simp only [Act.put, List.setIfInBounds_toArray, List.set_cons_zero, List.set_cons_succ, i64_w, i32_w]
        rfl
       refine pure_ (i := 3) (N := some 94) (v := ?_) (a' := ?_) (bm 44 15) rfl rfl (any_of HT_.out (by kernel_rfl)) (fun _ _ _ h => h) (Or.inl ⟨by rfl, ?_⟩) ?_ ?_
       rotate_left
       ·
        intro w'
        go_simp
        with_reducible rfl
       rotate_left
       ·
        simp only [Act.put, List.setIfInBounds_toArray, List.set_cons_zero, List.set_cons_succ, i64_w, i32_w]
        rfl
       refine take_ (i := 4) (N := some 95) (v := ?_) (a' := ?_) (bm 44 31) rfl rfl (take_ofW HT_.out HW_.out (by kernel_rfl)) (fun _ _ _ h => h) (Or.inl ⟨by rfl, ?_⟩) hHeld ?_ ?_
       rotate_left
       ·
        rintro w' ⟨s0, s1⟩
        go_simp
        with_reducible rfl
       rotate_left
       ·
        simp only [Act.put, List.setIfInBounds_toArray, List.set_cons_zero, List.set_cons_succ, i64_w, i32_w]
        rfl
       refine pure_ (i := 5) (N := some 96) (v := ?_) (a' := ?_) (bm 44 63) rfl rfl (any_of HT_.out (by kernel_rfl)) (fun _ _ _ h => h) (Or.inl ⟨by rfl, ?_⟩) ?_ ?_
       rotate_left
       ·
        intro w'
        go_simp
        with_reducible rfl
       rotate_left
       ·
        simp only [Act.put, List.setIfInBounds_toArray, List.set_cons_zero, List.set_cons_succ, i64_w, i32_w]
        rfl
       refine pure_ (i := 6) (N := some 97) (v := ?_) (a' := ?_) (bm 44 127) rfl rfl (any_of HT_.out (by kernel_rfl)) (fun _ _ _ h => h) (Or.inl ⟨by rfl, ?_⟩) ?_ ?_
       rotate_left
       ·
        intro w'
        go_simp
        with_reducible rfl
       rotate_left
       ·
        simp only [Act.put, List.setIfInBounds_toArray, List.set_cons_zero, List.set_cons_succ, i64_w, i32_w]
        rfl
       refine pure_ (i := 7) (N := some 98) (v := ?_) (a' := ?_) (bm 44 255) rfl rfl (any_of HT_.out (by kernel_rfl)) (fun _ _ _ h => h) (Or.inl ⟨by rfl, ?_⟩) ?_ ?_
       rotate_left
       ·
        intro w'
        go_simp
        with_reducible rfl
       rotate_left
       ·
        simp only [Act.put, List.setIfInBounds_toArray, List.set_cons_zero, List.set_cons_succ, i64_w, i32_w]
        rfl
       refine pure_ (i := 8) (N := some 99) (v := ?_) (a' := ?_) (bm 44 511) rfl rfl (any_of HT_.out (by kernel_rfl)) (fun _ _ _ h => h) (Or.inl ⟨by rfl, ?_⟩) ?_ ?_
       rotate_left
       ·
        intro w'
        go_simp
        with_reducible rfl
       rotate_left
       ·
        simp only [Act.put, List.setIfInBounds_toArray, List.set_cons_zero, List.set_cons_succ, i64_w, i32_w]
        rfl
       refine pure_ (i := 10) (N := some 101) (v := ?_) (a' := ?_) (bm 44 1535) rfl rfl (any_of HT_.out (by kernel_rfl)) (fun _ _ _ h => h) (Or.inl ⟨by rfl, ?_⟩) ?_ ?_
       rotate_left
       ·
        intro w'
        go_simp
        with_reducible rfl
       rotate_left
       ·
        simp only [Act.put, List.setIfInBounds_toArray, List.set_cons_zero, List.set_cons_succ, i64_w, i32_w]
        rfl
       refine take_ (i := 9) (N := some 100) (v := ?_) (a' := ?_) (bm 44 2047) rfl rfl (take_ofW HT_.out HW_.out (by kernel_rfl)) (fun _ _ _ h => h) (Or.inl ⟨by rfl, ?_⟩) hHeld ?_ ?_
       rotate_left
       ·
        rintro w' ⟨s0, s1⟩
        go_simp
        with_reducible rfl
       rotate_left
       ·
        simp only [Act.put, List.setIfInBounds_toArray, List.set_cons_zero, List.set_cons_succ, i64_w, i32_w]
        rfl
       refine pure_ (i := 11) (N := some 102) (v := ?_) (a' := ?_) (bm 44 4095) rfl rfl (any_of HT_.out (by kernel_rfl)) (fun _ _ _ h => h) (Or.inl ⟨by rfl, ?_⟩) ?_ ?_
       rotate_left
       ·
        intro w'
        go_simp
        with_reducible rfl
       rotate_left
       ·
        simp only [Act.put, List.setIfInBounds_toArray, List.set_cons_zero, List.set_cons_succ, i64_w, i32_w]
        rfl
       refine take_ (i := 12) (N := some 103) (v := ?_) (a' := ?_) (bm 44 8191) rfl rfl (take_ofW HT_.out HW_.out (by kernel_rfl)) (fun _ _ _ h => h) (Or.inl ⟨by rfl, ?_⟩) hHeld ?_ ?_
       rotate_left
       ·
        rintro w' ⟨s0, s1⟩
        go_simp
        with_reducible rfl
       rotate_left
       ·
        simp only [Act.put, List.setIfInBounds_toArray, List.set_cons_zero, List.set_cons_succ, i64_w, i32_w]
        rfl
       refine pure_ (i := 13) (N := some 104) (v := ?_) (a' := ?_) (bm 44 16383) rfl rfl (any_of HT_.out (by kernel_rfl)) (fun _ _ _ h => h) (Or.inl ⟨by rfl, ?_⟩) ?_ ?_
       rotate_left
       ·
        intro w'
        go_simp
        with_reducible rfl
       rotate_left
       ·
        simp only [Act.put, List.setIfInBounds_toArray, List.set_cons_zero, List.set_cons_succ, i64_w, i32_w]
        rfl
       refine pure_ (i := 14) (N := some 105) (v := ?_) (a' := ?_) (bm 44 32767) rfl rfl (any_of HT_.out (by kernel_rfl)) (fun _ _ _ h => h) (Or.inl ⟨by rfl, ?_⟩) ?_ ?_
       rotate_left
       ·
        intro w'
        go_simp
        with_reducible rfl
       rotate_left
       ·
        simp only [Act.put, List.setIfInBounds_toArray, List.set_cons_zero, List.set_cons_succ, i64_w, i32_w]
        rfl
       refine pure_ (i := 15) (N := some 106) (v := ?_) (a' := ?_) (bm 44 65535) rfl rfl (any_of HT_.out (by kernel_rfl)) (fun _ _ _ h => h) (Or.inl ⟨by rfl, ?_⟩) ?_ ?_
       rotate_left
       ·
        intro w'
        go_simp
        with_reducible rfl
       rotate_left
       ·
        simp only [Act.put, List.setIfInBounds_toArray, List.set_cons_zero, List.set_cons_succ, i64_w, i32_w]
        rfl
       refine pure_ (i := 16) (N := some 107) (v := ?_) (a' := ?_) (bm 44 131071) rfl rfl (any_of HT_.out (by kernel_rfl)) (fun _ _ _ h => h) (Or.inl ⟨by rfl, ?_⟩) ?_ ?_
       rotate_left
       ·
        intro w'
        go_simp
        with_reducible rfl
       rotate_left
       ·
        simp only [Act.put, List.setIfInBounds_toArray, List.set_cons_zero, List.set_cons_succ, i64_w, i32_w]
        rfl
       refine pure_ (i := 17) (N := some 108) (v := ?_) (a' := ?_) (bm 44 262143) rfl rfl (any_of HT_.out (by kernel_rfl)) (fun _ _ _ h => h) (Or.inl ⟨by rfl, ?_⟩) ?_ ?_
       rotate_left
       ·
        intro w'
        go_simp
        with_reducible rfl
       rotate_left
       ·
        simp only [Act.put, List.setIfInBounds_toArray, List.set_cons_zero, List.set_cons_succ, i64_w, i32_w]
        rfl
       refine pure_ (i := 19) (N := some 110) (v := ?_) (a' := ?_) (bm 44 786431) rfl rfl (any_of HT_.out (by kernel_rfl)) (fun _ _ _ h => h) (Or.inl ⟨by rfl, ?_⟩) ?_ ?_
       rotate_left
       ·
        intro w'
        go_simp
        with_reducible rfl
       rotate_left
       ·
        simp only [Act.put, List.setIfInBounds_toArray, List.set_cons_zero, List.set_cons_succ, i64_w, i32_w]
        rfl
       refine take_ (i := 18) (N := some 109) (v := ?_) (a' := ?_) (bm 44 1048575) rfl rfl (take_ofW HT_.out HW_.out (by kernel_rfl)) (fun _ _ _ h => h) (Or.inl ⟨by rfl, ?_⟩) hHeld ?_ ?_
       rotate_left
       ·
        rintro w' ⟨s0, s1⟩
        go_simp
        with_reducible rfl
       rotate_left
       ·
        simp only [Act.put, List.setIfInBounds_toArray, List.set_cons_zero, List.set_cons_succ, i64_w, i32_w]
        rfl
       refine pure_ (i := 20) (N := some 111) (v := ?_) (a' := ?_) (bm 44 2097151) rfl rfl (any_of HT_.out (by kernel_rfl)) (fun _ _ _ h => h) (Or.inl ⟨by rfl, ?_⟩) ?_ ?_
       rotate_left
       ·
        intro w'
        go_simp
        with_reducible rfl
       rotate_left
       ·
        simp only [Act.put, List.setIfInBounds_toArray, List.set_cons_zero, List.set_cons_succ, i64_w, i32_w]
        rfl
       refine take_ (i := 21) (N := some 112) (v := ?_) (a' := ?_) (bm 44 4194303) rfl rfl (take_ofW HT_.out HW_.out (by kernel_rfl)) (fun _ _ _ h => h) (Or.inl ⟨by rfl, ?_⟩) hHeld ?_ ?_
       rotate_left
       ·
        rintro w' ⟨s0, s1⟩
        go_simp
        with_reducible rfl
       rotate_left
       ·
        simp only [Act.put, List.setIfInBounds_toArray, List.set_cons_zero, List.set_cons_succ, i64_w, i32_w]
        rfl
       refine one_ (i := 22) (N := some 113) (bm 44 8388607) rfl rfl (one_of HT_.out (by kernel_rfl)) (by decide) (fun K hK => ?_)
       refine goes_ Try.func64 (by kernel_rfl) rfl #[.slice B0 x.length b0] (by rfl) rfl rfl (by (try simp only [List.map_toArray, List.map_cons, List.map_nil]); first | done | rfl) ?_
       have HTc := textsFit_any w5 B0 b0 x hK5 hcap (by omega)
       rw [hT] at HTc
       with_reducible refine HTc.mono ?_
       rintro e w' ⟨rfl, ⟨nd1, rfl⟩⟩
       refine ⟨_, rfl, ?_⟩
       refine hK.out _ _ hHeld (fun hHeld => ?_)
       clear hK K
       refine norm_ (a' := ?_) ?_ ?_
       rotate_left
       ·
        show Act.put _ (some 113) _ = _
        simp only [Act.put, List.setIfInBounds_toArray, List.set_cons_zero, List.set_cons_succ, i64_w, i32_w]
        rfl
       refine pure_ (i := 23) (N := some 114) (v := ?_) (a' := ?_) (bm 44 16777215) rfl rfl (any_of HT_.out (by kernel_rfl)) (fun _ _ _ h => h) (Or.inl ⟨by rfl, ?_⟩) ?_ ?_
       rotate_left
       ·
        intro w'
        go_simp
        with_reducible rfl
       rotate_left
       ·
        simp only [Act.put, List.setIfInBounds_toArray, List.set_cons_zero, List.set_cons_succ, i64_w, i32_w]
        rfl
       refine pure_ (i := 24) (N := some 115) (v := ?_) (a' := ?_) (bm 44 33554431) rfl rfl (any_of HT_.out (by kernel_rfl)) (fun _ _ _ h => h) (Or.inl ⟨by rfl, ?_⟩) ?_ ?_
       rotate_left
       ·
        intro w'
        go_simp
        with_reducible rfl
       rotate_left
       ·
        simp only [Act.put, List.setIfInBounds_toArray, List.set_cons_zero, List.set_cons_succ, i64_w, i32_w]
        rfl
       refine pure_ (i := 25) (N := some 116) (v := ?_) (a' := ?_) (bm 44 67108863) rfl rfl (any_of HT_.out (by kernel_rfl)) (fun _ _ _ h => h) (Or.inl ⟨by rfl, ?_⟩) ?_ ?_
       rotate_left
       ·
        intro w'
        go_simp
        with_reducible rfl
       rotate_left
       ·
        simp only [Act.put, List.setIfInBounds_toArray, List.set_cons_zero, List.set_cons_succ, i64_w, i32_w]
        rfl
       refine pure_ (i := 26) (N := some 117) (v := ?_) (a' := ?_) (bm 44 134217727) rfl rfl (any_of HT_.out (by kernel_rfl)) (fun _ _ _ h => h) (Or.inl ⟨by rfl, ?_⟩) ?_ ?_
       rotate_left
       ·
        intro w'
        go_simp
        with_reducible rfl
       rotate_left
       ·
        simp only [Act.put, List.setIfInBounds_toArray, List.set_cons_zero, List.set_cons_succ, i64_w, i32_w]
        rfl
       refine pure_ (i := 27) (N := some 118) (v := ?_) (a' := ?_) (bm 44 268435455) rfl rfl (any_of HT_.out (by kernel_rfl)) (fun _ _ _ h => h) (Or.inl ⟨by rfl, ?_⟩) ?_ ?_
       rotate_left
       ·
        intro w'
        go_simp
        with_reducible rfl
       rotate_left
       ·
        simp only [Act.put, List.setIfInBounds_toArray, List.set_cons_zero, List.set_cons_succ, i64_w, i32_w]
        rfl
       refine pure_ (i := 28) (N := some 119) (v := ?_) (a' := ?_) (bm 44 536870911) rfl rfl (any_of HT_.out (by kernel_rfl)) (fun _ _ _ h => h) (Or.inl ⟨by rfl, ?_⟩) ?_ ?_
       rotate_left
       ·
        intro w'
        go_simp
        with_reducible rfl
       rotate_left
       ·
        simp only [Act.put, List.setIfInBounds_toArray, List.set_cons_zero, List.set_cons_succ, i64_w, i32_w]
        rfl
       refine pure_ (i := 29) (N := some 120) (v := undef) (a' := ?_) (bm 44 1073741823) rfl rfl (any_of HT_.out (by kernel_rfl)) (fun _ _ _ h => h) (Or.inr ⟨by rfl, rfl⟩) ?_ ?_
       rotate_left
       ·
        simp only [Act.put, List.setIfInBounds_toArray, List.set_cons_zero, List.set_cons_succ, i64_w, i32_w]
        rfl
       refine pure_ (i := 30) (N := some 121) (v := undef) (a' := ?_) (bm 44 2147483647) rfl rfl (any_of HT_.out (by kernel_rfl)) (fun _ _ _ h => h) (Or.inr ⟨by rfl, rfl⟩) ?_ ?_
       rotate_left
       ·
        simp only [Act.put, List.setIfInBounds_toArray, List.set_cons_zero, List.set_cons_succ, i64_w, i32_w]
        rfl
       refine pure_ (i := 31) (N := some 122) (v := undef) (a' := ?_) (bm 44 4294967295) rfl rfl (any_of HT_.out (by kernel_rfl)) (fun _ _ _ h => h) (Or.inr ⟨by rfl, rfl⟩) ?_ ?_
       rotate_left
       ·
        simp only [Act.put, List.setIfInBounds_toArray, List.set_cons_zero, List.set_cons_succ, i64_w, i32_w]
        rfl
       refine pure_ (i := 32) (N := some 123) (v := undef) (a' := ?_) (bm 44 8589934591) rfl rfl (any_of HT_.out (by kernel_rfl)) (fun _ _ _ h => h) (Or.inr ⟨by rfl, rfl⟩) ?_ ?_
       rotate_left
       ·
        simp only [Act.put, List.setIfInBounds_toArray, List.set_cons_zero, List.set_cons_succ, i64_w, i32_w]
        rfl
       refine pure_ (i := 33) (N := some 124) (v := undef) (a' := ?_) (bm 44 17179869183) rfl rfl (any_of HT_.out (by kernel_rfl)) (fun _ _ _ h => h) (Or.inr ⟨by rfl, rfl⟩) ?_ ?_
       rotate_left
       ·
        simp only [Act.put, List.setIfInBounds_toArray, List.set_cons_zero, List.set_cons_succ, i64_w, i32_w]
        rfl
       refine pure_ (i := 34) (N := some 125) (v := undef) (a' := ?_) (bm 44 34359738367) rfl rfl (any_of HT_.out (by kernel_rfl)) (fun _ _ _ h => h) (Or.inr ⟨by rfl, rfl⟩) ?_ ?_
       rotate_left
       ·
        simp only [Act.put, List.setIfInBounds_toArray, List.set_cons_zero, List.set_cons_succ, i64_w, i32_w]
        rfl
       refine pure_ (i := 35) (N := some 126) (v := undef) (a' := ?_) (bm 44 68719476735) rfl rfl (any_of HT_.out (by kernel_rfl)) (fun _ _ _ h => h) (Or.inr ⟨by rfl, rfl⟩) ?_ ?_
       rotate_left
       ·
        simp only [Act.put, List.setIfInBounds_toArray, List.set_cons_zero, List.set_cons_succ, i64_w, i32_w]
        rfl
       refine pure_ (i := 36) (N := some 127) (v := undef) (a' := ?_) (bm 44 137438953471) rfl rfl (any_of HT_.out (by kernel_rfl)) (fun _ _ _ h => h) (Or.inr ⟨by rfl, rfl⟩) ?_ ?_
       rotate_left
       ·
        simp only [Act.put, List.setIfInBounds_toArray, List.set_cons_zero, List.set_cons_succ, i64_w, i32_w]
        rfl
       refine pure_ (i := 37) (N := some 128) (v := undef) (a' := ?_) (bm 44 274877906943) rfl rfl (any_of HT_.out (by kernel_rfl)) (fun _ _ _ h => h) (Or.inr ⟨by rfl, rfl⟩) ?_ ?_
       rotate_left
       ·
        simp only [Act.put, List.setIfInBounds_toArray, List.set_cons_zero, List.set_cons_succ, i64_w, i32_w]
        rfl
       refine pure_ (i := 38) (N := some 129) (v := undef) (a' := ?_) (bm 44 549755813887) rfl rfl (any_of HT_.out (by kernel_rfl)) (fun _ _ _ h => h) (Or.inr ⟨by rfl, rfl⟩) ?_ ?_
       rotate_left
       ·
        simp only [Act.put, List.setIfInBounds_toArray, List.set_cons_zero, List.set_cons_succ, i64_w, i32_w]
        rfl
       refine pure_ (i := 39) (N := some 130) (v := undef) (a' := ?_) (bm 44 1099511627775) rfl rfl (any_of HT_.out (by kernel_rfl)) (fun _ _ _ h => h) (Or.inr ⟨by rfl, rfl⟩) ?_ ?_
       rotate_left
       ·
        simp only [Act.put, List.setIfInBounds_toArray, List.set_cons_zero, List.set_cons_succ, i64_w, i32_w]
        rfl
       refine pure_ (i := 40) (N := some 131) (v := undef) (a' := ?_) (bm 44 2199023255551) rfl rfl (any_of HT_.out (by kernel_rfl)) (fun _ _ _ h => h) (Or.inr ⟨by rfl, rfl⟩) ?_ ?_
       rotate_left
       ·
        simp only [Act.put, List.setIfInBounds_toArray, List.set_cons_zero, List.set_cons_succ, i64_w, i32_w]
        rfl
       refine pure_ (i := 41) (N := some 132) (v := undef) (a' := ?_) (bm 44 4398046511103) rfl rfl (any_of HT_.out (by kernel_rfl)) (fun _ _ _ h => h) (Or.inr ⟨by rfl, rfl⟩) ?_ ?_
       rotate_left
       ·
        simp only [Act.put, List.setIfInBounds_toArray, List.set_cons_zero, List.set_cons_succ, i64_w, i32_w]
        rfl
       refine pure_ (i := 42) (N := some 133) (v := ?_) (a' := ?_) (bm 44 8796093022207) rfl rfl (any_of HT_.out (by kernel_rfl)) (fun _ _ _ h => h) (Or.inl ⟨by rfl, ?_⟩) ?_ ?_
       rotate_left
       ·
        intro w'
        go_simp
        with_reducible rfl
       rotate_left
       ·
        simp only [Act.put, List.setIfInBounds_toArray, List.set_cons_zero, List.set_cons_succ, i64_w, i32_w]
        rfl
       refine pure_ (i := 43) (N := some 134) (v := ?_) (a' := ?_) (bm 44 17592186044415) rfl rfl (any_of HT_.out (by kernel_rfl)) (fun _ _ _ h => h) (Or.inl ⟨by rfl, ?_⟩) ?_ ?_
       rotate_left
       ·
        intro w'
        go_simp
        with_reducible rfl
       rotate_left
       ·
        simp only [Act.put, List.setIfInBounds_toArray, List.set_cons_zero, List.set_cons_succ, i64_w, i32_w]
        rfl
       refine done_ (done_of HT_.out (by kernel_rfl)) ?_
       go_wp2_with (fail)
       go_roundw
       case rel => exact ⟨k + 1, by omega, by go_num, hBd.drewN nd1, by rw [HR.out]; exact HE2.out⟩
       case measure => simp [intOf]; omega
      ·
       obtain ⟨j, y, B1, b1, hkj, rfl, hyl, hcy, hyc, hY⟩ := hx0.out (by omega)
       have he : (!decide (0 ≤ cmpL cmpS y x) && R) = FB := by rw [← HE.out, hok]; dsimp only; rw [if_neg hk1]; rfl
       have HE2 := hid_ he
       clear HE hx0 he hxd hok
       have hY5 : Kd.string.C wr.drew B1 y.length y := Kd.C_drew hY
       have d4 : decide ((0 : Int) < (k : Int)) = true := decide_eq_true (by omega)
       have d5 : decide (0 < k) = true := decide_eq_true (by omega)
       have ek : wrap64 ((k : Int) - 1) = (j : Int) := by rw [wrap_ _ (by omega) (by omega)]; omega
       have hj0 : 0 ≤ (j : Int) := by omega
       have hj1 : (j : Int) < (g.S.length : Int) := by omega
       clear hkj hk1
       go_wp2_with (fail)
       refine start_ (n := 44) (S := fun w' => w'.cell? ⟨w.heap.size, 2, none⟩ = some (.slice (some ad) g.S.length c2) ∧ w'.cell? (ad.add k) = some (.slice B0 x.length b0) ∧ w'.cell? (ad.add j) = some (.slice B1 y.length b1)) (ds := []) (bm 44 0) (by kernel_rfl) rfl (by kernel_rfl) ⟨q2, hcell, hcy⟩ (fun hHeld => ?_)
       refine with_tabW hasForm.tab10 hasForm.bits10 (fun HT_ HW_ => ?_)
       generalize wr.drew = w5 at hHeld hBd hK5 hY5 ⊢
       refine pure_ (i := 0) (N := some 91) (v := ?_) (a' := ?_) (bm 44 1) rfl rfl (any_of HT_.out (by kernel_rfl)) (fun _ _ _ h => h) (Or.inl ⟨by rfl, ?_⟩) ?_ ?_
       rotate_left
       ·
        intro w'
        go_simp
        with_reducible rfl
       rotate_left
       ·
        simp only [Act.put, List.setIfInBounds_toArray, List.set_cons_zero, List.set_cons_succ, i64_w, i32_w]
        rfl
       refine pure_ (i := 2) (N := some 93) (v := ?_) (a' := ?_) (bm 44 5) rfl rfl (any_of HT_.out (by kernel_rfl)) (fun _ _ _ h => h) (Or.inl ⟨by rfl, ?_⟩) ?_ ?_
       rotate_left
       ·
        intro w'
        go_simp
        with_reducible rfl
       rotate_left
       ·
        simp only [Act.put, List.setIfInBounds_toArray, List.set_cons_zero, List.set_cons_succ, i64_w, i32_w]
        rfl
       refine take_ (i := 1) (N := some 92) (v := ?_) (a' := ?_) (bm 44 7) rfl rfl (take_ofW HT_.out HW_.out (by kernel_rfl)) (fun _ _ _ h => h) (Or.inl ⟨by rfl, ?_⟩) hHeld ?_ ?_
       rotate_left
       ·
        rintro w' ⟨s0, s1, s2⟩
        go_simp
        with_reducible rfl
       rotate_left
       ·
        simp only [Act.put, List.setIfInBounds_toArray, List.set_cons_zero, List.set_cons_succ, i64_w, i32_w]
        rfl
       refine pure_ (i := 3) (N := some 94) (v := ?_) (a' := ?_) (bm 44 15) rfl rfl (any_of HT_.out (by kernel_rfl)) (fun _ _ _ h => h) (Or.inl ⟨by rfl, ?_⟩) ?_ ?_
       rotate_left
       ·
        intro w'
        go_simp
        with_reducible rfl
       rotate_left
       ·
        simp only [Act.put, List.setIfInBounds_toArray, List.set_cons_zero, List.set_cons_succ, i64_w, i32_w]
        rfl
       refine take_ (i := 4) (N := some 95) (v := ?_) (a' := ?_) (bm 44 31) rfl rfl (take_ofW HT_.out HW_.out (by kernel_rfl)) (fun _ _ _ h => h) (Or.inl ⟨by rfl, ?_⟩) hHeld ?_ ?_
       rotate_left
       ·
        rintro w' ⟨s0, s1, s2⟩
        go_simp
        with_reducible rfl
       rotate_left
       ·
        simp only [Act.put, List.setIfInBounds_toArray, List.set_cons_zero, List.set_cons_succ, i64_w, i32_w]
        rfl
       refine pure_ (i := 5) (N := some 96) (v := ?_) (a' := ?_) (bm 44 63) rfl rfl (any_of HT_.out (by kernel_rfl)) (fun _ _ _ h => h) (Or.inl ⟨by rfl, ?_⟩) ?_ ?_
       rotate_left
       ·
        intro w'
        go_simp
        with_reducible rfl
       rotate_left
       ·
        simp only [Act.put, List.setIfInBounds_toArray, List.set_cons_zero, List.set_cons_succ, i64_w, i32_w]
        rfl
       refine pure_ (i := 6) (N := some 97) (v := ?_) (a' := ?_) (bm 44 127) rfl rfl (any_of HT_.out (by kernel_rfl)) (fun _ _ _ h => h) (Or.inl ⟨by rfl, ?_⟩) ?_ ?_
       rotate_left
       ·
        intro w'
        go_simp
        with_reducible rfl
       rotate_left
       ·
        simp only [Act.put, List.setIfInBounds_toArray, List.set_cons_zero, List.set_cons_succ, i64_w, i32_w]
        rfl
       refine pure_ (i := 7) (N := some 98) (v := ?_) (a' := ?_) (bm 44 255) rfl rfl (any_of HT_.out (by kernel_rfl)) (fun _ _ _ h => h) (Or.inl ⟨by rfl, ?_⟩) ?_ ?_
       rotate_left
       ·
        intro w'
        go_simp
        with_reducible rfl
       rotate_left
       ·
        simp only [Act.put, List.setIfInBounds_toArray, List.set_cons_zero, List.set_cons_succ, i64_w, i32_w]
        rfl
       refine pure_ (i := 8) (N := some 99) (v := ?_) (a' := ?_) (bm 44 511) rfl rfl (any_of HT_.out (by kernel_rfl)) (fun _ _ _ h => h) (Or.inl ⟨by rfl, ?_⟩) ?_ ?_
       rotate_left
       ·
        intro w'
        go_simp
        with_reducible rfl
       rotate_left
       ·
        simp only [Act.put, List.setIfInBounds_toArray, List.set_cons_zero, List.set_cons_succ, i64_w, i32_w]
        rfl
       refine pure_ (i := 10) (N := some 101) (v := ?_) (a' := ?_) (bm 44 1535) rfl rfl (any_of HT_.out (by kernel_rfl)) (fun _ _ _ h => h) (Or.inl ⟨by rfl, ?_⟩) ?_ ?_
       rotate_left
       ·
        intro w'
        go_simp
        with_reducible rfl
       rotate_left
       ·
        simp only [Act.put, List.setIfInBounds_toArray, List.set_cons_zero, List.set_cons_succ, i64_w, i32_w]
        rfl
       refine take_ (i := 9) (N := some 100) (v := ?_) (a' := ?_) (bm 44 2047) rfl rfl (take_ofW HT_.out HW_.out (by kernel_rfl)) (fun _ _ _ h => h) (Or.inl ⟨by rfl, ?_⟩) hHeld ?_ ?_
       rotate_left
       ·
        rintro w' ⟨s0, s1, s2⟩
        go_simp
        with_reducible rfl
       rotate_left
       ·
        simp only [Act.put, List.setIfInBounds_toArray, List.set_cons_zero, List.set_cons_succ, i64_w, i32_w]
        rfl
       refine pure_ (i := 11) (N := some 102) (v := ?_) (a' := ?_) (bm 44 4095) rfl rfl (any_of HT_.out (by kernel_rfl)) (fun _ _ _ h => h) (Or.inl ⟨by rfl, ?_⟩) ?_ ?_
       rotate_left
       ·
        intro w'
        go_simp
        with_reducible rfl
       rotate_left
       ·
        simp only [Act.put, List.setIfInBounds_toArray, List.set_cons_zero, List.set_cons_succ, i64_w, i32_w]
        rfl
       refine take_ (i := 12) (N := some 103) (v := ?_) (a' := ?_) (bm 44 8191) rfl rfl (take_ofW HT_.out HW_.out (by kernel_rfl)) (fun _ _ _ h => h) (Or.inl ⟨by rfl, ?_⟩) hHeld ?_ ?_
       rotate_left
       ·
        rintro w' ⟨s0, s1, s2⟩
        go_simp
        with_reducible rfl
       rotate_left
       ·
        simp only [Act.put, List.setIfInBounds_toArray, List.set_cons_zero, List.set_cons_succ, i64_w, i32_w]
        rfl
       refine pure_ (i := 13) (N := some 104) (v := ?_) (a' := ?_) (bm 44 16383) rfl rfl (any_of HT_.out (by kernel_rfl)) (fun _ _ _ h => h) (Or.inl ⟨by rfl, ?_⟩) ?_ ?_
       rotate_left
       ·
        intro w'
        go_simp
        with_reducible rfl
       rotate_left
       ·
        simp only [Act.put, List.setIfInBounds_toArray, List.set_cons_zero, List.set_cons_succ, i64_w, i32_w]
        rfl
       refine pure_ (i := 14) (N := some 105) (v := ?_) (a' := ?_) (bm 44 32767) rfl rfl (any_of HT_.out (by kernel_rfl)) (fun _ _ _ h => h) (Or.inl ⟨by rfl, ?_⟩) ?_ ?_
       rotate_left
       ·
        intro w'
        go_simp
        with_reducible rfl
       rotate_left
       ·
        simp only [Act.put, List.setIfInBounds_toArray, List.set_cons_zero, List.set_cons_succ, i64_w, i32_w]
        rfl
       refine pure_ (i := 15) (N := some 106) (v := ?_) (a' := ?_) (bm 44 65535) rfl rfl (any_of HT_.out (by kernel_rfl)) (fun _ _ _ h => h) (Or.inl ⟨by rfl, ?_⟩) ?_ ?_
       rotate_left
       ·
        intro w'
        go_simp
        with_reducible rfl
       rotate_left
       ·
        simp only [Act.put, List.setIfInBounds_toArray, List.set_cons_zero, List.set_cons_succ, i64_w, i32_w]
        rfl
       refine pure_ (i := 16) (N := some 107) (v := ?_) (a' := ?_) (bm 44 131071) rfl rfl (any_of HT_.out (by kernel_rfl)) (fun _ _ _ h => h) (Or.inl ⟨by rfl, ?_⟩) ?_ ?_
       rotate_left
       ·
        intro w'
        go_simp
        with_reducible rfl
       rotate_left
       ·
        simp only [Act.put, List.setIfInBounds_toArray, List.set_cons_zero, List.set_cons_succ, i64_w, i32_w]
        rfl
       refine pure_ (i := 17) (N := some 108) (v := ?_) (a' := ?_) (bm 44 262143) rfl rfl (any_of HT_.out (by kernel_rfl)) (fun _ _ _ h => h) (Or.inl ⟨by rfl, ?_⟩) ?_ ?_
       rotate_left
       ·
        intro w'
        go_simp
        with_reducible rfl
       rotate_left
       ·
        simp only [Act.put, List.setIfInBounds_toArray, List.set_cons_zero, List.set_cons_succ, i64_w, i32_w]
        rfl
       refine pure_ (i := 19) (N := some 110) (v := ?_) (a' := ?_) (bm 44 786431) rfl rfl (any_of HT_.out (by kernel_rfl)) (fun _ _ _ h => h) (Or.inl ⟨by rfl, ?_⟩) ?_ ?_
       rotate_left
       ·
        intro w'
        go_simp
        with_reducible rfl
       rotate_left
       ·
        simp only [Act.put, List.setIfInBounds_toArray, List.set_cons_zero, List.set_cons_succ, i64_w, i32_w]
        rfl
       refine take_ (i := 18) (N := some 109) (v := ?_) (a' := ?_) (bm 44 1048575) rfl rfl (take_ofW HT_.out HW_.out (by kernel_rfl)) (fun _ _ _ h => h) (Or.inl ⟨by rfl, ?_⟩) hHeld ?_ ?_
       rotate_left
       ·
        rintro w' ⟨s0, s1, s2⟩
        go_simp
        with_reducible rfl
       rotate_left
       ·
        simp only [Act.put, List.setIfInBounds_toArray, List.set_cons_zero, List.set_cons_succ, i64_w, i32_w]
        rfl
       refine pure_ (i := 20) (N := some 111) (v := ?_) (a' := ?_) (bm 44 2097151) rfl rfl (any_of HT_.out (by kernel_rfl)) (fun _ _ _ h => h) (Or.inl ⟨by rfl, ?_⟩) ?_ ?_
       rotate_left
       ·
        intro w'
        go_simp
        with_reducible rfl
       rotate_left
       ·
        simp only [Act.put, List.setIfInBounds_toArray, List.set_cons_zero, List.set_cons_succ, i64_w, i32_w]
        rfl
       refine take_ (i := 21) (N := some 112) (v := ?_) (a' := ?_) (bm 44 4194303) rfl rfl (take_ofW HT_.out HW_.out (by kernel_rfl)) (fun _ _ _ h => h) (Or.inl ⟨by rfl, ?_⟩) hHeld ?_ ?_
       rotate_left
       ·
        rintro w' ⟨s0, s1, s2⟩
        go_simp
        with_reducible rfl
       rotate_left
       ·
        simp only [Act.put, List.setIfInBounds_toArray, List.set_cons_zero, List.set_cons_succ, i64_w, i32_w]
        rfl
       refine one_ (i := 22) (N := some 113) (bm 44 8388607) rfl rfl (one_of HT_.out (by kernel_rfl)) (by decide) (fun K hK => ?_)
       refine goes_ Try.func64 (by kernel_rfl) rfl #[.slice B0 x.length b0] (by rfl) rfl rfl (by (try simp only [List.map_toArray, List.map_cons, List.map_nil]); first | done | rfl) ?_
       have HTc := textsFit_any w5 B0 b0 x hK5 hcap (by omega)
       rw [hT] at HTc
       with_reducible refine HTc.mono ?_
       rintro e w' ⟨rfl, ⟨nd1, rfl⟩⟩
       refine ⟨_, rfl, ?_⟩
       refine hK.out _ _ hHeld (fun hHeld => ?_)
       clear hK K
       refine norm_ (a' := ?_) ?_ ?_
       rotate_left
       ·
        show Act.put _ (some 113) _ = _
        simp only [Act.put, List.setIfInBounds_toArray, List.set_cons_zero, List.set_cons_succ, i64_w, i32_w]
        rfl
       refine pure_ (i := 23) (N := some 114) (v := ?_) (a' := ?_) (bm 44 16777215) rfl rfl (any_of HT_.out (by kernel_rfl)) (fun _ _ _ h => h) (Or.inl ⟨by rfl, ?_⟩) ?_ ?_
       rotate_left
       ·
        intro w'
        go_simp
        with_reducible rfl
       rotate_left
       ·
        simp only [Act.put, List.setIfInBounds_toArray, List.set_cons_zero, List.set_cons_succ, i64_w, i32_w]
        rfl
       refine pure_ (i := 24) (N := some 115) (v := ?_) (a' := ?_) (bm 44 33554431) rfl rfl (any_of HT_.out (by kernel_rfl)) (fun _ _ _ h => h) (Or.inl ⟨by rfl, ?_⟩) ?_ ?_
       rotate_left
       ·
        intro w'
        go_simp
        with_reducible rfl
       rotate_left
       ·
        simp only [Act.put, List.setIfInBounds_toArray, List.set_cons_zero, List.set_cons_succ, i64_w, i32_w]
        rfl
       refine pure_ (i := 25) (N := some 116) (v := ?_) (a' := ?_) (bm 44 67108863) rfl rfl (any_of HT_.out (by kernel_rfl)) (fun _ _ _ h => h) (Or.inl ⟨by rfl, ?_⟩) ?_ ?_
       rotate_left
       ·
        intro w'
        go_simp
        with_reducible rfl
       rotate_left
       ·
        simp only [Act.put, List.setIfInBounds_toArray, List.set_cons_zero, List.set_cons_succ, i64_w, i32_w]
        rfl
       refine pure_ (i := 26) (N := some 117) (v := ?_) (a' := ?_) (bm 44 134217727) rfl rfl (any_of HT_.out (by kernel_rfl)) (fun _ _ _ h => h) (Or.inl ⟨by rfl, ?_⟩) ?_ ?_
       rotate_left
       ·
        intro w'
        go_simp
        with_reducible rfl
       rotate_left
       ·
        simp only [Act.put, List.setIfInBounds_toArray, List.set_cons_zero, List.set_cons_succ, i64_w, i32_w]
        rfl
       refine pure_ (i := 27) (N := some 118) (v := ?_) (a' := ?_) (bm 44 268435455) rfl rfl (any_of HT_.out (by kernel_rfl)) (fun _ _ _ h => h) (Or.inl ⟨by rfl, ?_⟩) ?_ ?_
       rotate_left
       ·
        intro w'
        go_simp
        with_reducible rfl
       rotate_left
       ·
        simp only [Act.put, List.setIfInBounds_toArray, List.set_cons_zero, List.set_cons_succ, i64_w, i32_w]
        rfl
       refine pure_ (i := 28) (N := some 119) (v := ?_) (a' := ?_) (bm 44 536870911) rfl rfl (any_of HT_.out (by kernel_rfl)) (fun _ _ _ h => h) (Or.inl ⟨by rfl, ?_⟩) ?_ ?_
       rotate_left
       ·
        intro w'
        go_simp
        with_reducible rfl
       rotate_left
       ·
        simp only [Act.put, List.setIfInBounds_toArray, List.set_cons_zero, List.set_cons_succ, i64_w, i32_w]
        rfl
       refine pure_ (i := 29) (N := some 120) (v := ?_) (a' := ?_) (bm 44 1073741823) rfl rfl (any_of HT_.out (by kernel_rfl)) (fun _ _ _ h => h) (Or.inl ⟨by rfl, ?_⟩) ?_ ?_
       rotate_left
       ·
        intro w'
        go_simp
        with_reducible rfl
       rotate_left
       ·
        simp only [Act.put, List.setIfInBounds_toArray, List.set_cons_zero, List.set_cons_succ, i64_w, i32_w]
        rfl
       refine pure_ (i := 31) (N := some 122) (v := ?_) (a' := ?_) (bm 44 3221225471) rfl rfl (any_of HT_.out (by kernel_rfl)) (fun _ _ _ h => h) (Or.inl ⟨by rfl, ?_⟩) ?_ ?_
       rotate_left
       ·
        intro w'
        go_simp
        with_reducible rfl
       rotate_left
       ·
        simp only [Act.put, List.setIfInBounds_toArray, List.set_cons_zero, List.set_cons_succ, i64_w, i32_w]
        rfl
       refine pure_ (i := 32) (N := some 123) (v := ?_) (a' := ?_) (bm 44 7516192767) rfl rfl (any_of HT_.out (by kernel_rfl)) (fun _ _ _ h => h) (Or.inl ⟨by rfl, ?_⟩) ?_ ?_
       rotate_left
       ·
        intro w'
        go_simp
        with_reducible rfl
       rotate_left
       ·
        simp only [Act.put, List.setIfInBounds_toArray, List.set_cons_zero, List.set_cons_succ, i64_w, i32_w]
        rfl
       refine pure_ (i := 35) (N := some 126) (v := ?_) (a' := ?_) (bm 44 41875931135) rfl rfl (any_of HT_.out (by kernel_rfl)) (fun _ _ _ h => h) (Or.inl ⟨by rfl, ?_⟩) ?_ ?_
       rotate_left
       ·
        intro w'
        go_simp
        with_reducible rfl
       rotate_left
       ·
        simp only [Act.put, List.setIfInBounds_toArray, List.set_cons_zero, List.set_cons_succ, i64_w, i32_w]
        rfl
       refine pure_ (i := 37) (N := some 128) (v := ?_) (a' := ?_) (bm 44 179314884607) rfl rfl (any_of HT_.out (by kernel_rfl)) (fun _ _ _ h => h) (Or.inl ⟨by rfl, ?_⟩) ?_ ?_
       rotate_left
       ·
        intro w'
        go_simp
        with_reducible rfl
       rotate_left
       ·
        simp only [Act.put, List.setIfInBounds_toArray, List.set_cons_zero, List.set_cons_succ, i64_w, i32_w]
        rfl
       refine take_ (i := 30) (N := some 121) (v := ?_) (a' := ?_) (bm 44 180388626431) rfl rfl (take_ofW HT_.out HW_.out (by kernel_rfl)) (fun _ _ _ h => h) (Or.inl ⟨by rfl, ?_⟩) hHeld ?_ ?_
       rotate_left
       ·
        rintro w' ⟨s0, s1, s2⟩
        go_simp
        with_reducible rfl
       rotate_left
       ·
        simp only [Act.put, List.setIfInBounds_toArray, List.set_cons_zero, List.set_cons_succ, i64_w, i32_w]
        rfl
       refine pure_ (i := 33) (N := some 124) (v := ?_) (a' := ?_) (bm 44 188978561023) rfl rfl (any_of HT_.out (by kernel_rfl)) (fun _ _ _ h => h) (Or.inl ⟨by rfl, ?_⟩) ?_ ?_
       rotate_left
       ·
        intro w'
        go_simp
        with_reducible rfl
       rotate_left
       ·
        simp only [Act.put, List.setIfInBounds_toArray, List.set_cons_zero, List.set_cons_succ, i64_w, i32_w]
        rfl
       refine take_ (i := 34) (N := some 125) (v := ?_) (a' := ?_) (bm 44 206158430207) rfl rfl (take_ofW HT_.out HW_.out (by kernel_rfl)) (fun _ _ _ h => h) (Or.inl ⟨by rfl, ?_⟩) hHeld ?_ ?_
       rotate_left
       ·
        rintro w' ⟨s0, s1, s2⟩
        go_simp
        with_reducible rfl
       rotate_left
       ·
        simp only [Act.put, List.setIfInBounds_toArray, List.set_cons_zero, List.set_cons_succ, i64_w, i32_w]
        rfl
       refine take_ (i := 36) (N := some 127) (v := ?_) (a' := ?_) (bm 44 274877906943) rfl rfl (take_ofW HT_.out HW_.out (by kernel_rfl)) (fun _ _ _ h => h) (Or.inl ⟨by rfl, ?_⟩) hHeld ?_ ?_
       rotate_left
       ·
        rintro w' ⟨s0, s1, s2⟩
        go_simp
        with_reducible rfl
       rotate_left
       ·
        simp only [Act.put, List.setIfInBounds_toArray, List.set_cons_zero, List.set_cons_succ, i64_w, i32_w]
        rfl
       refine pure_ (i := 38) (N := some 129) (v := ?_) (a' := ?_) (bm 44 549755813887) rfl rfl (any_of HT_.out (by kernel_rfl)) (fun _ _ _ h => h) (Or.inl ⟨by rfl, ?_⟩) ?_ ?_
       rotate_left
       ·
        intro w'
        go_simp
        with_reducible rfl
       rotate_left
       ·
        simp only [Act.put, List.setIfInBounds_toArray, List.set_cons_zero, List.set_cons_succ, i64_w, i32_w]
        rfl
       refine take_ (i := 39) (N := some 130) (v := ?_) (a' := ?_) (bm 44 1099511627775) rfl rfl (take_ofW HT_.out HW_.out (by kernel_rfl)) (fun _ _ _ h => h) (Or.inl ⟨by rfl, ?_⟩) hHeld ?_ ?_
       rotate_left
       ·
        rintro w' ⟨s0, s1, s2⟩
        go_simp
        with_reducible rfl
       rotate_left
       ·
        simp only [Act.put, List.setIfInBounds_toArray, List.set_cons_zero, List.set_cons_succ, i64_w, i32_w]
        rfl
       refine one_ (i := 40) (N := some 131) (bm 44 2199023255551) rfl rfl (one_of HT_.out (by kernel_rfl)) (by decide) (fun K hK => ?_)
       refine goes_ Try.func66 (by kernel_rfl) rfl #[.slice B1 y.length b1, .slice B0 x.length b0] (by rfl) rfl rfl (by (try simp only [List.map_toArray, List.map_cons, List.map_nil]); first | done | rfl) ?_
       with_reducible refine (lessS_any (w5.drewN nd1) B1 B0 b1 b0 y x (Kd.C_drewN hY5 nd1) hyc (Kd.C_drewN hK5 nd1) hcap (by omega)).mono ?_
       rintro e w' ⟨rfl, ⟨nd2, rfl⟩⟩
       refine ⟨_, rfl, ?_⟩
       refine hK.out _ _ hHeld (fun hHeld => ?_)
       clear hK K
       refine norm_ (a' := ?_) ?_ ?_
       rotate_left
       ·
        show Act.put _ (some 131) _ = _
        simp only [Act.put, List.setIfInBounds_toArray, List.set_cons_zero, List.set_cons_succ, i64_w, i32_w]
        rfl
       refine pure_ (i := 41) (N := some 132) (v := ?_) (a' := ?_) (bm 44 4398046511103) rfl rfl (any_of HT_.out (by kernel_rfl)) (fun _ _ _ h => h) (Or.inl ⟨by rfl, ?_⟩) ?_ ?_
       rotate_left
       ·
        intro w'
        go_simp
        with_reducible rfl
       rotate_left
       ·
        simp only [Act.put, List.setIfInBounds_toArray, List.set_cons_zero, List.set_cons_succ, i64_w, i32_w]
        rfl
       refine pure_ (i := 42) (N := some 133) (v := ?_) (a' := ?_) (bm 44 8796093022207) rfl rfl (any_of HT_.out (by kernel_rfl)) (fun _ _ _ h => h) (Or.inl ⟨by rfl, ?_⟩) ?_ ?_
       rotate_left
       ·
        intro w'
        go_simp
        with_reducible rfl
       rotate_left
       ·
        simp only [Act.put, List.setIfInBounds_toArray, List.set_cons_zero, List.set_cons_succ, i64_w, i32_w]
        rfl
       refine pure_ (i := 43) (N := some 134) (v := ?_) (a' := ?_) (bm 44 17592186044415) rfl rfl (any_of HT_.out (by kernel_rfl)) (fun _ _ _ h => h) (Or.inl ⟨by rfl, ?_⟩) ?_ ?_
       rotate_left
       ·
        intro w'
        go_simp
        with_reducible rfl
       rotate_left
       ·
        simp only [Act.put, List.setIfInBounds_toArray, List.set_cons_zero, List.set_cons_succ, i64_w, i32_w]
        rfl
       refine done_ (done_of HT_.out (by kernel_rfl)) ?_
       cases hless : decide (0 ≤ cmpL cmpS y x) with
       | true =>
        have e : FB = false := by rw [← HE2.out, hless]; rfl
        subst e
        go_wp2_with (fail)
        go_ret
        exact ⟨rfl, (by first | exact (hBd.drewN _).below | exact ((hBd.drewN nd1).drewN nd2).below)⟩
       | false =>
        go_wp2_with (fail)
        go_roundw
        case rel => exact ⟨k + 1, by omega, by go_num, (by first | exact hBd.drewN _ | exact (hBd.drewN nd1).drewN nd2), by rw [HR.out, ← HE2.out, hless]; rfl⟩
        case measure => simp [intOf]; omega
    ·
     have e : (risesB (cmpL cmpI) okII none g.M && g.C.all instrOK) = FB := by rw [← HE.out, risesB_end _ _ _ _ (by omega), Bool.true_and]
     have HF4 := hid_ e
     clear HE e
     have hge : ¬ (k : Int) < (g.S.length : Int) := by omega
     go_wp2_with (fail)
     clear q0 q1 q2 q3 q4 q5 q6 hge hlt hk
     go_loopw [4] (fun i wr => ∃ k : Nat, k ≤ g.M.length ∧ i = .int .i64 k ∧ InBox w wr w.heap.size A0 A1 A2 A3 A4 c0 c1 c2 c3 c4 g ∧ (risesB (cmpL cmpI) okII (if k = 0 then none else g.M[k - 1]?) (g.M.drop k) && g.C.all instrOK) = FB) (fun i _ => g.M.length - (intOf i).toNat)
     case atStart => exact ⟨0, by omega, rfl, hB, HF4.out⟩
     case round =>
      clear hB HF4
      obtain ⟨k, hk, rfl, hB, he⟩ := hrel
      have HE := hid_ he; clear he
      obtain ⟨q0, q1, q2, q3, q4, q5, q6⟩ := boxed hB.box
      by_cases hlt : k < g.M.length
      ·
       obtain ⟨ad, B0, b0, rfl, hcell, hcap, hK⟩ := at_L3 hB.inp.M (k : Int) (by omega) (by omega)
       rw [Int.toNat_natCast] at hcell
       have hx : rd_L3 g.M (k : Int) = g.M[k] := by simp [rd_L3, hlt]
       rw [hx] at hcell hcap hK
       have he := HE.out
       rw [risesB_at _ _ _ _ hlt, Bool.and_assoc, Bool.and_assoc] at he
       clear HE hx
       generalize hR : (risesB (cmpL cmpI) okII (if k + 1 = 0 then none else g.M[k + 1 - 1]?) (g.M.drop (k + 1)) && g.C.all instrOK) = R at he
       have HR := hid_ hR; clear hR
       have hxl := MM_ _ (List.getElem_mem hlt)
       have hlkI : (k : Int) < (g.M.length : Int) := by omega
       have hk0 : 0 ≤ (k : Int) := by omega
       have hx0 : Hid (0 < k → ∃ (j : Nat) (y : List Int) (B1 : Option Addr) (b1 : Nat), k = j + 1 ∧ g.M[k - 1]? = some y ∧ y.length ≤ 140737488351232 ∧ wr.cell? (ad.add j) = some (.slice B1 y.length b1) ∧ y.length ≤ b1 ∧ (Kd.int .i64).C wr B1 y.length y) := hid_ fun h0 => by
        obtain ⟨ad2, B1, b1, e2, hc, hy, hY⟩ := at_L3 hB.inp.M ((k - 1 : Nat) : Int) (by omega) (by omega)
        obtain rfl := Option.some.inj e2
        rw [Int.toNat_natCast, show rd_L3 g.M ((k - 1 : Nat) : Int) = g.M[k - 1] by simp [rd_L3, show k - 1 < g.M.length by omega]] at hc
        rw [show rd_L3 g.M ((k - 1 : Nat) : Int) = g.M[k - 1] by simp [rd_L3, show k - 1 < g.M.length by omega]] at hy hY
        exact ⟨k - 1, g.M[k - 1], B1, b1, by omega, List.getElem?_eq_getElem (by omega), MM_ _ (List.getElem_mem _), hc, hy, hY⟩
       have hp : (if k = 0 then true else !decide (0 ≤ cmpL cmpI (g.M[k - 1]'(by omega)) g.M[k])) = (match g.M[k - 1]? with | none => true | some y => if k = 0 then true else !decide (0 ≤ cmpL cmpI y g.M[k])) := by
        rw [List.getElem?_eq_getElem (show k - 1 < g.M.length by omega)]
       rw [hp] at he
       clear hp
       generalize g.M[k - 1]? = Y at he hx0
       generalize g.M[k] = x at hcell hcap hK he hxl
       have HE := hid_ he; clear he
       have hBd := hB.drew
       have hK5 : (Kd.int .i64).C wr.drew B0 x.length x := Kd.C_drew hK
       by_cases hx0l : x.length < 1
       ·
        have e : FB = false := by rw [← HE.out]; unfold okII; rw [decide_eq_false (p := 1 ≤ x.length ∧ x.length ≤ 1000) (by omega)]; rfl
        subst e
        clear HE HR hx0
        have d0 : decide ((x.length : Int) < 1) = true := decide_eq_true (by omega)
        have d1 : decide (x.length < 1) = true := decide_eq_true hx0l
        clear hx0l
        go_wp2_with (fail)
        go_region
        go_wp2_with (fail)
        go_ret
        exact ⟨rfl, hBd.below⟩
       have d0 : decide ((x.length : Int) < 1) = false := decide_eq_false (by omega)
       have d1 : decide (x.length < 1) = false := decide_eq_false hx0l
       by_cases hx1 : 1000 < x.length
       ·
        have e : FB = false := by rw [← HE.out]; unfold okII; rw [decide_eq_false (p := 1 ≤ x.length ∧ x.length ≤ 1000) (by omega)]; rfl
        subst e
        clear HE HR hx0
        have d2 : decide (1000 < (x.length : Int)) = true := decide_eq_true (by omega)
        have d3 : decide (1000 < x.length) = true := decide_eq_true hx1
        clear hx0l hx1
        go_wp2_with (fail)
        go_region
        go_wp2_with (fail)
        go_ret
        exact ⟨rfl, hBd.below⟩
       have d2 : decide (1000 < (x.length : Int)) = false := decide_eq_false (by omega)
       have d3 : decide (1000 < x.length) = false := decide_eq_false hx1
       have hxd : decide (1 ≤ x.length ∧ x.length ≤ 1000) = true := decide_eq_true (by omega)
       clear hx0l hx1
       cases hT : risesB cmpI okI none x with
       | false =>
        have e : FB = false := by rw [← HE.out]; unfold okII; rw [hxd, hT]; rfl
        subst e
        clear HE HR hx0 hxd
        go_wp2_with (fail)
        refine start_ (n := 44) (S := fun w' => w'.cell? ⟨w.heap.size, 3, none⟩ = some (.slice (some ad) g.M.length c3) ∧ w'.cell? (ad.add k) = some (.slice B0 x.length b0)) (ds := []) (bm 44 0) (by kernel_rfl) rfl (by kernel_rfl) ⟨q3, hcell⟩ (fun hHeld => ?_)
        refine with_tabW hasForm.tab15 hasForm.bits15 (fun HT_ HW_ => ?_)
        generalize wr.drew = w5 at hHeld hBd hK5 ⊢
        refine pure_ (i := 0) (N := some 142) (v := ?_) (a' := ?_) (bm 44 1) rfl rfl (any_of HT_.out (by kernel_rfl)) (fun _ _ _ h => h) (Or.inl ⟨by rfl, ?_⟩) ?_ ?_
        rotate_left
        ·
         intro w'
         go_simp
         with_reducible rfl
        rotate_left
        ·
         simp only [Act.put, List.setIfInBounds_toArray, List.set_cons_zero, List.set_cons_succ, i64_w, i32_w]
         rfl
        refine pure_ (i := 2) (N := some 144) (v := ?_) (a' := ?_) (bm 44 5) rfl rfl (any_of HT_.out (by kernel_rfl)) (fun _ _ _ h => h) (Or.inl ⟨by rfl, ?_⟩) ?_ ?_
        rotate_left
        ·
         intro w'
         go_simp
         with_reducible rfl
        rotate_left
        ·
         simp only [Act.put, List.setIfInBounds_toArray, List.set_cons_zero, List.set_cons_succ, i64_w, i32_w]
         rfl
        refine take_ (i := 1) (N := some 143) (v := ?_) (a' := ?_) (bm 44 7) rfl rfl (take_ofW HT_.out HW_.out (by kernel_rfl)) (fun _ _ _ h => h) (Or.inl ⟨by rfl, ?_⟩) hHeld ?_ ?_
        rotate_left
        ·
         rintro w' ⟨s0, s1⟩
         go_simp
         with_reducible rfl
        rotate_left
        ·
         simp only [Act.put, List.setIfInBounds_toArray, List.set_cons_zero, List.set_cons_succ, i64_w, i32_w]
         rfl
        refine pure_ (i := 3) (N := some 145) (v := ?_) (a' := ?_) (bm 44 15) rfl rfl (any_of HT_.out (by kernel_rfl)) (fun _ _ _ h => h) (Or.inl ⟨by rfl, ?_⟩) ?_ ?_
        rotate_left
        ·
         intro w'
         go_simp
         with_reducible rfl
        rotate_left
        ·
         simp only [Act.put, List.setIfInBounds_toArray, List.set_cons_zero, List.set_cons_succ, i64_w, i32_w]
         rfl
        refine take_ (i := 4) (N := some 146) (v := ?_) (a' := ?_) (bm 44 31) rfl rfl (take_ofW HT_.out HW_.out (by kernel_rfl)) (fun _ _ _ h => h) (Or.inl ⟨by rfl, ?_⟩) hHeld ?_ ?_
        rotate_left
        ·
         rintro w' ⟨s0, s1⟩
         go_simp
         with_reducible rfl
        rotate_left
        ·
         simp only [Act.put, List.setIfInBounds_toArray, List.set_cons_zero, List.set_cons_succ, i64_w, i32_w]
         rfl
        refine pure_ (i := 5) (N := some 147) (v := ?_) (a' := ?_) (bm 44 63) rfl rfl (any_of HT_.out (by kernel_rfl)) (fun _ _ _ h => h) (Or.inl ⟨by rfl, ?_⟩) ?_ ?_
        rotate_left
        ·
         intro w'
         go_simp
         with_reducible rfl
        rotate_left
        ·
         simp only [Act.put, List.setIfInBounds_toArray, List.set_cons_zero, List.set_cons_succ, i64_w, i32_w]
         rfl
        refine pure_ (i := 6) (N := some 148) (v := ?_) (a' := ?_) (bm 44 127) rfl rfl (any_of HT_.out (by kernel_rfl)) (fun _ _ _ h => h) (Or.inl ⟨by rfl, ?_⟩) ?_ ?_
        rotate_left
        ·
         intro w'
         go_simp
         with_reducible rfl
        rotate_left
        ·
         simp only [Act.put, List.setIfInBounds_toArray, List.set_cons_zero, List.set_cons_succ, i64_w, i32_w]
         rfl
        refine pure_ (i := 7) (N := some 149) (v := ?_) (a' := ?_) (bm 44 255) rfl rfl (any_of HT_.out (by kernel_rfl)) (fun _ _ _ h => h) (Or.inl ⟨by rfl, ?_⟩) ?_ ?_
        rotate_left
        ·
         intro w'
         go_simp
         with_reducible rfl
        rotate_left
        ·
         simp only [Act.put, List.setIfInBounds_toArray, List.set_cons_zero, List.set_cons_succ, i64_w, i32_w]
         rfl
        refine pure_ (i := 8) (N := some 150) (v := ?_) (a' := ?_) (bm 44 511) rfl rfl (any_of HT_.out (by kernel_rfl)) (fun _ _ _ h => h) (Or.inl ⟨by rfl, ?_⟩) ?_ ?_
        rotate_left
        ·
         intro w'
         go_simp
         with_reducible rfl
        rotate_left
        ·
         simp only [Act.put, List.setIfInBounds_toArray, List.set_cons_zero, List.set_cons_succ, i64_w, i32_w]
         rfl
        refine pure_ (i := 10) (N := some 152) (v := ?_) (a' := ?_) (bm 44 1535) rfl rfl (any_of HT_.out (by kernel_rfl)) (fun _ _ _ h => h) (Or.inl ⟨by rfl, ?_⟩) ?_ ?_
        rotate_left
        ·
         intro w'
         go_simp
         with_reducible rfl
        rotate_left
        ·
         simp only [Act.put, List.setIfInBounds_toArray, List.set_cons_zero, List.set_cons_succ, i64_w, i32_w]
         rfl
        refine take_ (i := 9) (N := some 151) (v := ?_) (a' := ?_) (bm 44 2047) rfl rfl (take_ofW HT_.out HW_.out (by kernel_rfl)) (fun _ _ _ h => h) (Or.inl ⟨by rfl, ?_⟩) hHeld ?_ ?_
        rotate_left
        ·
         rintro w' ⟨s0, s1⟩
         go_simp
         with_reducible rfl
        rotate_left
        ·
         simp only [Act.put, List.setIfInBounds_toArray, List.set_cons_zero, List.set_cons_succ, i64_w, i32_w]
         rfl
        refine pure_ (i := 11) (N := some 153) (v := ?_) (a' := ?_) (bm 44 4095) rfl rfl (any_of HT_.out (by kernel_rfl)) (fun _ _ _ h => h) (Or.inl ⟨by rfl, ?_⟩) ?_ ?_
        rotate_left
        ·
         intro w'
         go_simp
         with_reducible rfl
        rotate_left
        ·
         simp only [Act.put, List.setIfInBounds_toArray, List.set_cons_zero, List.set_cons_succ, i64_w, i32_w]
         rfl
        refine take_ (i := 12) (N := some 154) (v := ?_) (a' := ?_) (bm 44 8191) rfl rfl (take_ofW HT_.out HW_.out (by kernel_rfl)) (fun _ _ _ h => h) (Or.inl ⟨by rfl, ?_⟩) hHeld ?_ ?_
        rotate_left
        ·
         rintro w' ⟨s0, s1⟩
         go_simp
         with_reducible rfl
        rotate_left
        ·
         simp only [Act.put, List.setIfInBounds_toArray, List.set_cons_zero, List.set_cons_succ, i64_w, i32_w]
         rfl
        refine pure_ (i := 13) (N := some 155) (v := ?_) (a' := ?_) (bm 44 16383) rfl rfl (any_of HT_.out (by kernel_rfl)) (fun _ _ _ h => h) (Or.inl ⟨by rfl, ?_⟩) ?_ ?_
        rotate_left
        ·
         intro w'
         go_simp
         with_reducible rfl
        rotate_left
        ·
         simp only [Act.put, List.setIfInBounds_toArray, List.set_cons_zero, List.set_cons_succ, i64_w, i32_w]
         rfl
        refine pure_ (i := 14) (N := some 156) (v := ?_) (a' := ?_) (bm 44 32767) rfl rfl (any_of HT_.out (by kernel_rfl)) (fun _ _ _ h => h) (Or.inl ⟨by rfl, ?_⟩) ?_ ?_
        rotate_left
        ·
         intro w'
         go_simp
         with_reducible rfl
        rotate_left
        ·
         simp only [Act.put, List.setIfInBounds_toArray, List.set_cons_zero, List.set_cons_succ, i64_w, i32_w]
         rfl
        refine pure_ (i := 15) (N := some 157) (v := ?_) (a' := ?_) (bm 44 65535) rfl rfl (any_of HT_.out (by kernel_rfl)) (fun _ _ _ h => h) (Or.inl ⟨by rfl, ?_⟩) ?_ ?_
        rotate_left
        ·
         intro w'
         go_simp
         with_reducible rfl
        rotate_left
        ·
         simp only [Act.put, List.setIfInBounds_toArray, List.set_cons_zero, List.set_cons_succ, i64_w, i32_w]
         rfl
        refine pure_ (i := 16) (N := some 158) (v := ?_) (a' := ?_) (bm 44 131071) rfl rfl (any_of HT_.out (by kernel_rfl)) (fun _ _ _ h => h) (Or.inl ⟨by rfl, ?_⟩) ?_ ?_
        rotate_left
        ·
         intro w'
         go_simp
         with_reducible rfl
        rotate_left
        ·
         simp only [Act.put, List.setIfInBounds_toArray, List.set_cons_zero, List.set_cons_succ, i64_w, i32_w]
         rfl
        refine pure_ (i := 17) (N := some 159) (v := ?_) (a' := ?_) (bm 44 262143) rfl rfl (any_of HT_.out (by kernel_rfl)) (fun _ _ _ h => h) (Or.inl ⟨by rfl, ?_⟩) ?_ ?_
        rotate_left
        ·
         intro w'
         go_simp
         with_reducible rfl
        rotate_left
        ·
         simp only [Act.put, List.setIfInBounds_toArray, List.set_cons_zero, List.set_cons_succ, i64_w, i32_w]
         rfl
        refine pure_ (i := 19) (N := some 161) (v := ?_) (a' := ?_) (bm 44 786431) rfl rfl (any_of HT_.out (by kernel_rfl)) (fun _ _ _ h => h) (Or.inl ⟨by rfl, ?_⟩) ?_ ?_
        rotate_left
        ·
         intro w'
         go_simp
         with_reducible rfl
        rotate_left
        ·
         simp only [Act.put, List.setIfInBounds_toArray, List.set_cons_zero, List.set_cons_succ, i64_w, i32_w]
         rfl
        refine take_ (i := 18) (N := some 160) (v := ?_) (a' := ?_) (bm 44 1048575) rfl rfl (take_ofW HT_.out HW_.out (by kernel_rfl)) (fun _ _ _ h => h) (Or.inl ⟨by rfl, ?_⟩) hHeld ?_ ?_
        rotate_left
        ·
         rintro w' ⟨s0, s1⟩
         go_simp
         with_reducible rfl
        rotate_left
        ·
         simp only [Act.put, List.setIfInBounds_toArray, List.set_cons_zero, List.set_cons_succ, i64_w, i32_w]
         rfl
        refine pure_ (i := 20) (N := some 162) (v := ?_) (a' := ?_) (bm 44 2097151) rfl rfl (any_of HT_.out (by kernel_rfl)) (fun _ _ _ h => h) (Or.inl ⟨by rfl, ?_⟩) ?_ ?_
        rotate_left
        ·
         intro w'
         go_simp
         with_reducible rfl
        rotate_left
        ·
         simp only [Act.put, List.setIfInBounds_toArray, List.set_cons_zero, List.set_cons_succ, i64_w, i32_w]
         rfl
        refine take_ (i := 21) (N := some 163) (v := ?_) (a' := ?_) (bm 44 4194303) rfl rfl (take_ofW HT_.out HW_.out (by kernel_rfl)) (fun _ _ _ h => h) (Or.inl ⟨by rfl, ?_⟩) hHeld ?_ ?_
        rotate_left
        ·
         rintro w' ⟨s0, s1⟩
         go_simp
         with_reducible rfl
        rotate_left
        ·
         simp only [Act.put, List.setIfInBounds_toArray, List.set_cons_zero, List.set_cons_succ, i64_w, i32_w]
         rfl
        refine one_ (i := 22) (N := some 164) (bm 44 8388607) rfl rfl (one_of HT_.out (by kernel_rfl)) (by decide) (fun K hK => ?_)
        refine goes_ Try.func65 (by kernel_rfl) rfl #[.slice B0 x.length b0] (by rfl) rfl rfl (by (try simp only [List.map_toArray, List.map_cons, List.map_nil]); first | done | rfl) ?_
        have HTc := numsFit_any w5 B0 b0 x hK5 hcap (by omega)
        rw [hT] at HTc
        with_reducible refine HTc.mono ?_
        rintro e w' ⟨rfl, ⟨nd1, rfl⟩⟩
        refine ⟨_, rfl, ?_⟩
        refine hK.out _ _ hHeld (fun hHeld => ?_)
        clear hK K
        refine norm_ (a' := ?_) ?_ ?_
        rotate_left
        ·
         show Act.put _ (some 164) _ = _
         simp only [Act.put, List.setIfInBounds_toArray, List.set_cons_zero, List.set_cons_succ, i64_w, i32_w]
         rfl
        refine pure_ (i := 23) (N := some 165) (v := ?_) (a' := ?_) (bm 44 16777215) rfl rfl (any_of HT_.out (by kernel_rfl)) (fun _ _ _ h => h) (Or.inl ⟨by rfl, ?_⟩) ?_ ?_
        rotate_left
        ·
         intro w'
         go_simp
         with_reducible rfl
        rotate_left
        ·
         simp only [Act.put, List.setIfInBounds_toArray, List.set_cons_zero, List.set_cons_succ, i64_w, i32_w]
         rfl
        refine pure_ (i := 24) (N := some 166) (v := ?_) (a' := ?_) (bm 44 33554431) rfl rfl (any_of HT_.out (by kernel_rfl)) (fun _ _ _ h => h) (Or.inl ⟨by rfl, ?_⟩) ?_ ?_
        rotate_left
        ·
         intro w'
         go_simp
         with_reducible rfl
        rotate_left
        ·
         simp only [Act.put, List.setIfInBounds_toArray, List.set_cons_zero, List.set_cons_succ, i64_w, i32_w]
         rfl
        refine pure_ (i := 25) (N := some 167) (v := ?_) (a' := ?_) (bm 44 67108863) rfl rfl (any_of HT_.out (by kernel_rfl)) (fun _ _ _ h => h) (Or.inl ⟨by rfl, ?_⟩) ?_ ?_
        rotate_left
        ·
         intro w'
         go_simp
         with_reducible rfl
        rotate_left
        ·
         simp only [Act.put, List.setIfInBounds_toArray, List.set_cons_zero, List.set_cons_succ, i64_w, i32_w]
         rfl
        refine pure_ (i := 26) (N := some 168) (v := undef) (a' := ?_) (bm 44 134217727) rfl rfl (any_of HT_.out (by kernel_rfl)) (fun _ _ _ h => h) (Or.inr ⟨by rfl, rfl⟩) ?_ ?_
        rotate_left
        ·
         simp only [Act.put, List.setIfInBounds_toArray, List.set_cons_zero, List.set_cons_succ, i64_w, i32_w]
         rfl
        refine pure_ (i := 27) (N := some 169) (v := undef) (a' := ?_) (bm 44 268435455) rfl rfl (any_of HT_.out (by kernel_rfl)) (fun _ _ _ h => h) (Or.inr ⟨by rfl, rfl⟩) ?_ ?_
        rotate_left
        ·
         simp only [Act.put, List.setIfInBounds_toArray, List.set_cons_zero, List.set_cons_succ, i64_w, i32_w]
         rfl
        refine pure_ (i := 28) (N := some 170) (v := undef) (a' := ?_) (bm 44 536870911) rfl rfl (any_of HT_.out (by kernel_rfl)) (fun _ _ _ h => h) (Or.inr ⟨by rfl, rfl⟩) ?_ ?_
        rotate_left
        ·
         simp only [Act.put, List.setIfInBounds_toArray, List.set_cons_zero, List.set_cons_succ, i64_w, i32_w]
         rfl
        refine pure_ (i := 29) (N := some 171) (v := undef) (a' := ?_) (bm 44 1073741823) rfl rfl (any_of HT_.out (by kernel_rfl)) (fun _ _ _ h => h) (Or.inr ⟨by rfl, rfl⟩) ?_ ?_
        rotate_left
        ·
         simp only [Act.put, List.setIfInBounds_toArray, List.set_cons_zero, List.set_cons_succ, i64_w, i32_w]
         rfl
        refine pure_ (i := 30) (N := some 172) (v := undef) (a' := ?_) (bm 44 2147483647) rfl rfl (any_of HT_.out (by kernel_rfl)) (fun _ _ _ h => h) (Or.inr ⟨by rfl, rfl⟩) ?_ ?_
        rotate_left
        ·
         simp only [Act.put, List.setIfInBounds_toArray, List.set_cons_zero, List.set_cons_succ, i64_w, i32_w]
         rfl
        refine pure_ (i := 31) (N := some 173) (v := undef) (a' := ?_) (bm 44 4294967295) rfl rfl (any_of HT_.out (by kernel_rfl)) (fun _ _ _ h => h) (Or.inr ⟨by rfl, rfl⟩) ?_ ?_
        rotate_left
        ·
         simp only [Act.put, List.setIfInBounds_toArray, List.set_cons_zero, List.set_cons_succ, i64_w, i32_w]
         rfl
        refine pure_ (i := 32) (N := some 174) (v := undef) (a' := ?_) (bm 44 8589934591) rfl rfl (any_of HT_.out (by kernel_rfl)) (fun _ _ _ h => h) (Or.inr ⟨by rfl, rfl⟩) ?_ ?_
        rotate_left
        ·
         simp only [Act.put, List.setIfInBounds_toArray, List.set_cons_zero, List.set_cons_succ, i64_w, i32_w]
         rfl
        refine pure_ (i := 33) (N := some 175) (v := undef) (a' := ?_) (bm 44 17179869183) rfl rfl (any_of HT_.out (by kernel_rfl)) (fun _ _ _ h => h) (Or.inr ⟨by rfl, rfl⟩) ?_ ?_
        rotate_left
        ·
         simp only [Act.put, List.setIfInBounds_toArray, List.set_cons_zero, List.set_cons_succ, i64_w, i32_w]
         rfl
        refine pure_ (i := 34) (N := some 176) (v := undef) (a' := ?_) (bm 44 34359738367) rfl rfl (any_of HT_.out (by kernel_rfl)) (fun _ _ _ h => h) (Or.inr ⟨by rfl, rfl⟩) ?_ ?_
        rotate_left
        ·
         simp only [Act.put, List.setIfInBounds_toArray, List.set_cons_zero, List.set_cons_succ, i64_w, i32_w]
         rfl
        refine pure_ (i := 35) (N := some 177) (v := undef) (a' := ?_) (bm 44 68719476735) rfl rfl (any_of HT_.out (by kernel_rfl)) (fun _ _ _ h => h) (Or.inr ⟨by rfl, rfl⟩) ?_ ?_
        rotate_left
        ·
         simp only [Act.put, List.setIfInBounds_toArray, List.set_cons_zero, List.set_cons_succ, i64_w, i32_w]
         rfl
        refine pure_ (i := 36) (N := some 178) (v := undef) (a' := ?_) (bm 44 137438953471) rfl rfl (any_of HT_.out (by kernel_rfl)) (fun _ _ _ h => h) (Or.inr ⟨by rfl, rfl⟩) ?_ ?_
        rotate_left
        ·
         simp only [Act.put, List.setIfInBounds_toArray, List.set_cons_zero, List.set_cons_succ, i64_w, i32_w]
         rfl
        refine pure_ (i := 37) (N := some 179) (v := undef) (a' := ?_) (bm 44 274877906943) rfl rfl (any_of HT_.out (by kernel_rfl)) (fun _ _ _ h => h) (Or.inr ⟨by rfl, rfl⟩) ?_ ?_
        rotate_left
        ·
         simp only [Act.put, List.setIfInBounds_toArray, List.set_cons_zero, List.set_cons_succ, i64_w, i32_w]
         rfl
        refine pure_ (i := 38) (N := some 180) (v := undef) (a' := ?_) (bm 44 549755813887) rfl rfl (any_of HT_.out (by kernel_rfl)) (fun _ _ _ h => h) (Or.inr ⟨by rfl, rfl⟩) ?_ ?_
        rotate_left
        ·
         simp only [Act.put, List.setIfInBounds_toArray, List.set_cons_zero, List.set_cons_succ, i64_w, i32_w]
         rfl
        refine pure_ (i := 39) (N := some 181) (v := undef) (a' := ?_) (bm 44 1099511627775) rfl rfl (any_of HT_.out (by kernel_rfl)) (fun _ _ _ h => h) (Or.inr ⟨by rfl, rfl⟩) ?_ ?_
        rotate_left
        ·
         simp only [Act.put, List.setIfInBounds_toArray, List.set_cons_zero, List.set_cons_succ, i64_w, i32_w]
         rfl
        refine pure_ (i := 40) (N := some 182) (v := undef) (a' := ?_) (bm 44 2199023255551) rfl rfl (any_of HT_.out (by kernel_rfl)) (fun _ _ _ h => h) (Or.inr ⟨by rfl, rfl⟩) ?_ ?_
        rotate_left
        ·
         simp only [Act.put, List.setIfInBounds_toArray, List.set_cons_zero, List.set_cons_succ, i64_w, i32_w]
         rfl
        refine pure_ (i := 41) (N := some 183) (v := undef) (a' := ?_) (bm 44 4398046511103) rfl rfl (any_of HT_.out (by kernel_rfl)) (fun _ _ _ h => h) (Or.inr ⟨by rfl, rfl⟩) ?_ ?_
        rotate_left
        ·
         simp only [Act.put, List.setIfInBounds_toArray, List.set_cons_zero, List.set_cons_succ, i64_w, i32_w]
         rfl
        refine pure_ (i := 42) (N := some 184) (v := undef) (a' := ?_) (bm 44 8796093022207) rfl rfl (any_of HT_.out (by kernel_rfl)) (fun _ _ _ h => h) (Or.inr ⟨by rfl, rfl⟩) ?_ ?_
        rotate_left
        ·
         simp only [Act.put, List.setIfInBounds_toArray, List.set_cons_zero, List.set_cons_succ, i64_w, i32_w]
         rfl
        refine pure_ (i := 43) (N := some 185) (v := ?_) (a' := ?_) (bm 44 17592186044415) rfl rfl (any_of HT_.out (by kernel_rfl)) (fun _ _ _ h => h) (Or.inl ⟨by rfl, ?_⟩) ?_ ?_
        rotate_left
        ·
         intro w'
         go_simp
         with_reducible rfl
        rotate_left
        ·
         simp only [Act.put, List.setIfInBounds_toArray, List.set_cons_zero, List.set_cons_succ, i64_w, i32_w]
         rfl
        refine done_ (done_of HT_.out (by kernel_rfl)) ?_
        go_wp2_with (fail)
        go_ret
        exact ⟨rfl, (hBd.drewN nd1).below⟩
       | true =>
        have hok : okII x = true := by unfold okII; rw [hxd, hT]; rfl
        by_cases hk1 : k = 0
        ·
         have he : (true && R) = FB := by rw [← HE.out, hok]; cases Y <;> simp [hk1]
         rw [Bool.true_and] at he
         have HE2 := hid_ he
         clear HE hx0 he hxd hok
         have d4 : decide ((0 : Int) < (k : Int)) = false := decide_eq_false (by omega)
         have d5 : decide (0 < k) = false := decide_eq_false (by omega)
         clear hk1
         go_wp2_with (fail)
         refine start_ (n := 44) (S := fun w' => w'.cell? ⟨w.heap.size, 3, none⟩ = some (.slice (some ad) g.M.length c3) ∧ w'.cell? (ad.add k) = some (.slice B0 x.length b0)) (ds := []) (bm 44 0) (by kernel_rfl) rfl (by kernel_rfl) ⟨q3, hcell⟩ (fun hHeld => ?_)
         refine with_tabW hasForm.tab15 hasForm.bits15 (fun HT_ HW_ => ?_)
         generalize wr.drew = w5 at hHeld hBd hK5 ⊢
         refine pure_ (i := 0) (N := some 142) (v := ?_) (a' := ?_) (bm 44 1) rfl rfl (any_of HT_.out (by kernel_rfl)) (fun _ _ _ h => h) (Or.inl ⟨by rfl, ?_⟩) ?_ ?_
         rotate_left
         ·
          intro w'
          go_simp
          with_reducible rfl
         rotate_left
         ·
          simp only [Act.put, List.setIfInBounds_toArray, List.set_cons_zero, List.set_cons_succ, i64_w, i32_w]
          rfl
         refine pure_ (i := 2) (N := some 144) (v := ?_) (a' := ?_) (bm 44 5) rfl rfl (any_of HT_.out (by kernel_rfl)) (fun _ _ _ h => h) (Or.inl ⟨by rfl, ?_⟩) ?_ ?_
         rotate_left
         ·
          intro w'
          go_simp
          with_reducible rfl
         rotate_left
         ·
          simp only [Act.put, List.setIfInBounds_toArray, List.set_cons_zero, List.set_cons_succ, i64_w, i32_w]
          rfl
         refine take_ (i := 1) (N := some 143) (v := ?_) (a' := ?_) (bm 44 7) rfl rfl (take_ofW HT_.out HW_.out (by kernel_rfl)) (fun _ _ _ h => h) (Or.inl ⟨by rfl, ?_⟩) hHeld ?_ ?_
         rotate_left
         ·
          rintro w' ⟨s0, s1⟩
          go_simp
          with_reducible rfl
         rotate_left
         ·
          simp only [Act.put, List.setIfInBounds_toArray, List.set_cons_zero, List.set_cons_succ, i64_w, i32_w]
          rfl
         refine pure_ (i := 3) (N := some 145) (v := ?_) (a' := ?_) (bm 44 15) rfl rfl (any_of HT_.out (by kernel_rfl)) (fun _ _ _ h => h) (Or.inl ⟨by rfl, ?_⟩) ?_ ?_
         rotate_left
         ·
          intro w'
          go_simp
          with_reducible rfl
         rotate_left
         ·
          simp only [Act.put, List.setIfInBounds_toArray, List.set_cons_zero, List.set_cons_succ, i64_w, i32_w]
          rfl
         refine take_ (i := 4) (N := some 146) (v := ?_) (a' := ?_) (bm 44 31) rfl rfl (take_ofW HT_.out HW_.out (by kernel_rfl)) (fun _ _ _ h => h) (Or.inl ⟨by rfl, ?_⟩) hHeld ?_ ?_
         rotate_left
         ·
          rintro w' ⟨s0, s1⟩
          go_simp
          with_reducible rfl
         rotate_left
         ·
          simp only [Act.put, List.setIfInBounds_toArray, List.set_cons_zero, List.set_cons_succ, i64_w, i32_w]
          rfl
         refine pure_ (i := 5) (N := some 147) (v := ?_) (a' := ?_) (bm 44 63) rfl rfl (any_of HT_.out (by kernel_rfl)) (fun _ _ _ h => h) (Or.inl ⟨by rfl, ?_⟩) ?_ ?_
         rotate_left
         ·
          intro w'
          go_simp
          with_reducible rfl
         rotate_left
         ·
          simp only [Act.put, List.setIfInBounds_toArray, List.set_cons_zero, List.set_cons_succ, i64_w, i32_w]
          rfl
         refine pure_ (i := 6) (N := some 148) (v := ?_) (a' := ?_) (bm 44 127) rfl rfl (any_of HT_.out (by kernel_rfl)) (fun _ _ _ h => h) (Or.inl ⟨by rfl, ?_⟩) ?_ ?_
         rotate_left
         ·
          intro w'
          go_simp
          with_reducible rfl
         rotate_left
         ·
          simp only [Act.put, List.setIfInBounds_toArray, List.set_cons_zero, List.set_cons_succ, i64_w, i32_w]
          rfl
         refine pure_ (i := 7) (N := some 149) (v := ?_) (a' := ?_) (bm 44 255) rfl rfl (any_of HT_.out (by kernel_rfl)) (fun _ _ _ h => h) (Or.inl ⟨by rfl, ?_⟩) ?_ ?_
         rotate_left
         ·
          intro w'
          go_simp
          with_reducible rfl
         rotate_left
         ·
          simp only [Act.put, List.setIfInBounds_toArray, List.set_cons_zero, List.set_cons_succ, i64_w, i32_w]
          rfl
         refine pure_ (i := 8) (N := some 150) (v := ?_) (a' := ?_) (bm 44 511) rfl rfl (any_of HT_.out (by kernel_rfl)) (fun _ _ _ h => h) (Or.inl ⟨by rfl, ?_⟩) ?_ ?_
         rotate_left
         ·
          intro w'
          go_simp
          with_reducible rfl
         rotate_left
         ·
          simp only [Act.put, List.setIfInBounds_toArray, List.set_cons_zero, List.set_cons_succ, i64_w, i32_w]
          rfl
         refine pure_ (i := 10) (N := some 152) (v := ?_) (a' := ?_) (bm 44 1535) rfl rfl (any_of HT_.out (by kernel_rfl)) (fun _ _ _ h => h) (Or.inl ⟨by rfl, ?_⟩) ?_ ?_
         rotate_left
         ·
          intro w'
          go_simp
          with_reducible rfl
         rotate_left
         ·
          simp only [Act.put, List.setIfInBounds_toArray, List.set_cons_zero, List.set_cons_succ, i64_w, i32_w]
          rfl
         refine take_ (i := 9) (N := some 151) (v := ?_) (a' := ?_) (bm 44 2047) rfl rfl (take_ofW HT_.out HW_.out (by kernel_rfl)) (fun _ _ _ h => h) (Or.inl ⟨by rfl, ?_⟩) hHeld ?_ ?_
         rotate_left
         ·
          rintro w' ⟨s0, s1⟩
          go_simp
          with_reducible rfl
         rotate_left
         ·
          simp only [Act.put, List.setIfInBounds_toArray, List.set_cons_zero, List.set_cons_succ, i64_w, i32_w]
          rfl
         refine pure_ (i := 11) (N := some 153) (v := ?_) (a' := ?_) (bm 44 4095) rfl rfl (any_of HT_.out (by kernel_rfl)) (fun _ _ _ h => h) (Or.inl ⟨by rfl, ?_⟩) ?_ ?_
         rotate_left
         ·
          intro w'
          go_simp
          with_reducible rfl
         rotate_left
         ·
          simp only [Act.put, List.setIfInBounds_toArray, List.set_cons_zero, List.set_cons_succ, i64_w, i32_w]
          rfl
         refine take_ (i := 12) (N := some 154) (v := ?_) (a' := ?_) (bm 44 8191) rfl rfl (take_ofW HT_.out HW_.out (by kernel_rfl)) (fun _ _ _ h => h) (Or.inl ⟨by rfl, ?_⟩) hHeld ?_ ?_
         rotate_left
         ·
          rintro w' ⟨s0, s1⟩
          go_simp
          with_reducible rfl
         rotate_left
         ·
          simp only [Act.put, List.setIfInBounds_toArray, List.set_cons_zero, List.set_cons_succ, i64_w, i32_w]
          rfl
         refine pure_ (i := 13) (N := some 155) (v := ?_) (a' := ?_) (bm 44 16383) rfl rfl (any_of HT_.out (by kernel_rfl)) (fun _ _ _ h => h) (Or.inl ⟨by rfl, ?_⟩) ?_ ?_
         rotate_left
         ·
          intro w'
          go_simp
          with_reducible rfl
         rotate_left
         ·
          simp only [Act.put, List.setIfInBounds_toArray, List.set_cons_zero, List.set_cons_succ, i64_w, i32_w]
          rfl
         refine pure_ (i := 14) (N := some 156) (v := ?_) (a' := ?_) (bm 44 32767) rfl rfl (any_of HT_.out (by kernel_rfl)) (fun _ _ _ h => h) (Or.inl ⟨by rfl, ?_⟩) ?_ ?_
         rotate_left
         ·
          intro w'
          go_simp
          with_reducible rfl
         rotate_left
         ·
          simp only [Act.put, List.setIfInBounds_toArray, List.set_cons_zero, List.set_cons_succ, i64_w, i32_w]
          rfl
         refine pure_ (i := 15) (N := some 157) (v := ?_) (a' := ?_) (bm 44 65535) rfl rfl (any_of HT_.out (by kernel_rfl)) (fun _ _ _ h => h) (Or.inl ⟨by rfl, ?_⟩) ?_ ?_
         rotate_left
         ·
          intro w'
          go_simp
          with_reducible rfl
         rotate_left
         ·
          simp only [Act.put, List.setIfInBounds_toArray, List.set_cons_zero, List.set_cons_succ, i64_w, i32_w]
          rfl
         refine pure_ (i := 16) (N := some 158) (v := ?_) (a' := ?_) (bm 44 131071) rfl rfl (any_of HT_.out (by kernel_rfl)) (fun _ _ _ h => h) (Or.inl ⟨by rfl, ?_⟩) ?_ ?_
         rotate_left
         ·
          intro w'
          go_simp
          with_reducible rfl
         rotate_left
         ·
          simp only [Act.put, List.setIfInBounds_toArray, List.set_cons_zero, List.set_cons_succ, i64_w, i32_w]
          rfl
         refine pure_ (i := 17) (N := some 159) (v := ?_) (a' := ?_) (bm 44 262143) rfl rfl (any_of HT_.out (by kernel_rfl)) (fun _ _ _ h => h) (Or.inl ⟨by rfl, ?_⟩) ?_ ?_
         rotate_left
         ·
          intro w'
          go_simp
          with_reducible rfl
         rotate_left
         ·
          simp only [Act.put, List.setIfInBounds_toArray, List.set_cons_zero, List.set_cons_succ, i64_w, i32_w]
          rfl
         refine pure_ (i := 19) (N := some 161) (v := ?_) (a' := ?_) (bm 44 786431) rfl rfl (any_of HT_.out (by kernel_rfl)) (fun _ _ _ h => h) (Or.inl ⟨by rfl, ?_⟩) ?_ ?_
         rotate_left
         ·
          intro w'
          go_simp
          with_reducible rfl
         rotate_left
         ·
          simp only [Act.put, List.setIfInBounds_toArray, List.set_cons_zero, List.set_cons_succ, i64_w, i32_w]
          rfl
         refine take_ (i := 18) (N := some 160) (v := ?_) (a' := ?_) (bm 44 1048575) rfl rfl (take_ofW HT_.out HW_.out (by kernel_rfl)) (fun _ _ _ h => h) (Or.inl ⟨by rfl, ?_⟩) hHeld ?_ ?_
         rotate_left
         ·
          rintro w' ⟨s0, s1⟩
          go_simp
          with_reducible rfl
         rotate_left
         ·
          simp only [Act.put, List.setIfInBounds_toArray, List.set_cons_zero, List.set_cons_succ, i64_w, i32_w]
          rfl
         refine pure_ (i := 20) (N := some 162) (v := ?_) (a' := ?_) (bm 44 2097151) rfl rfl (any_of HT_.out (by kernel_rfl)) (fun _ _ _ h => h) (Or.inl ⟨by rfl, ?_⟩) ?_ ?_
         rotate_left
         ·
          intro w'
          go_simp
          with_reducible rfl
         rotate_left
         ·
          simp only [Act.put, List.setIfInBounds_toArray, List.set_cons_zero, List.set_cons_succ, i64_w, i32_w]
          rfl
         refine take_ (i := 21) (N := some 163) (v := ?_) (a' := ?_) (bm 44 4194303) rfl rfl (take_ofW HT_.out HW_.out (by kernel_rfl)) (fun _ _ _ h => h) (Or.inl ⟨by rfl, ?_⟩) hHeld ?_ ?_
         rotate_left
         ·
          rintro w' ⟨s0, s1⟩
          go_simp
          with_reducible rfl
         rotate_left
         ·
          simp only [Act.put, List.setIfInBounds_toArray, List.set_cons_zero, List.set_cons_succ, i64_w, i32_w]
          rfl
         refine one_ (i := 22) (N := some 164) (bm 44 8388607) rfl rfl (one_of HT_.out (by kernel_rfl)) (by decide) (fun K hK => ?_)
         refine goes_ Try.func65 (by kernel_rfl) rfl #[.slice B0 x.length b0] (by rfl) rfl rfl (by (try simp only [List.map_toArray, List.map_cons, List.map_nil]); first | done | rfl) ?_
         have HTc := numsFit_any w5 B0 b0 x hK5 hcap (by omega)
         rw [hT] at HTc
         with_reducible refine HTc.mono ?_
         rintro e w' ⟨rfl, ⟨nd1, rfl⟩⟩
         refine ⟨_, rfl, ?_⟩
         refine hK.out _ _ hHeld (fun hHeld => ?_)
         clear hK K
         refine norm_ (a' := ?_) ?_ ?_
         rotate_left
         ·
          show Act.put _ (some 164) _ = _
          simp only [Act.put, List.setIfInBounds_toArray, List.set_cons_zero, List.set_cons_succ, i64_w, i32_w]
          rfl
         refine pure_ (i := 23) (N := some 165) (v := ?_) (a' := ?_) (bm 44 16777215) rfl rfl (any_of HT_.out (by kernel_rfl)) (fun _ _ _ h => h) (Or.inl ⟨by rfl, ?_⟩) ?_ ?_
         rotate_left
         ·
          intro w'
          go_simp
          with_reducible rfl
         rotate_left
         ·
          simp only [Act.put, List.setIfInBounds_toArray, List.set_cons_zero, List.set_cons_succ, i64_w, i32_w]
          rfl
         refine pure_ (i := 24) (N := some 166) (v := ?_) (a' := ?_) (bm 44 33554431) rfl rfl (any_of HT_.out (by kernel_rfl)) (fun _ _ _ h => h) (Or.inl ⟨by rfl, ?_⟩) ?_ ?_
         rotate_left
         ·
          intro w'
          go_simp
          with_reducible rfl
         rotate_left
         ·
          simp only [Act.put, List.setIfInBounds_toArray, List.set_cons_zero, List.set_cons_succ, i64_w, i32_w]
          rfl
         refine pure_ (i := 25) (N := some 167) (v := ?_) (a' := ?_) (bm 44 67108863) rfl rfl (any_of HT_.out (by kernel_rfl)) (fun _ _ _ h => h) (Or.inl ⟨by rfl, ?_⟩) ?_ ?_
         rotate_left
         ·
          intro w'
          go_simp
          with_reducible rfl
         rotate_left
         ·
          simp only [Act.put, List.setIfInBounds_toArray, List.set_cons_zero, List.set_cons_succ, i64_w, i32_w]
          rfl
         refine pure_ (i := 26) (N := some 168) (v := ?_) (a' := ?_) (bm 44 134217727) rfl rfl (any_of HT_.out (by kernel_rfl)) (fun _ _ _ h => h) (Or.inl ⟨by rfl, ?_⟩) ?_ ?_
         rotate_left
         ·
          intro w'
          go_simp
          with_reducible rfl
         rotate_left
         ·
          simp only [Act.put, List.setIfInBounds_toArray, List.set_cons_zero, List.set_cons_succ, i64_w, i32_w]
          rfl
         refine pure_ (i := 27) (N := some 169) (v := ?_) (a' := ?_) (bm 44 268435455) rfl rfl (any_of HT_.out (by kernel_rfl)) (fun _ _ _ h => h) (Or.inl ⟨by rfl, ?_⟩) ?_ ?_
         rotate_left
         ·
          intro w'
          go_simp
          with_reducible rfl
         rotate_left
         ·
          simp only [Act.put, List.setIfInBounds_toArray, List.set_cons_zero, List.set_cons_succ, i64_w, i32_w]
          rfl
         refine pure_ (i := 28) (N := some 170) (v := ?_) (a' := ?_) (bm 44 536870911) rfl rfl (any_of HT_.out (by kernel_rfl)) (fun _ _ _ h => h) (Or.inl ⟨by rfl, ?_⟩) ?_ ?_
         rotate_left
         ·
          intro w'
          go_simp
          with_reducible rfl
         rotate_left
         ·
          simp only [Act.put, List.setIfInBounds_toArray, List.set_cons_zero, List.set_cons_succ, i64_w, i32_w]
          rfl
         refine pure_ (i := 29) (N := some 171) (v := undef) (a' := ?_) (bm 44 1073741823) rfl rfl (any_of HT_.out (by kernel_rfl)) (fun _ _ _ h => h) (Or.inr ⟨by rfl, rfl⟩) ?_ ?_
         rotate_left
         ·
          simp only [Act.put, List.setIfInBounds_toArray, List.set_cons_zero, List.set_cons_succ, i64_w, i32_w]
          rfl
         refine pure_ (i := 30) (N := some 172) (v := undef) (a' := ?_) (bm 44 2147483647) rfl rfl (any_of HT_.out (by kernel_rfl)) (fun _ _ _ h => h) (Or.inr ⟨by rfl, rfl⟩) ?_ ?_
         rotate_left
         ·
          simp only [Act.put, List.setIfInBounds_toArray, List.set_cons_zero, List.set_cons_succ, i64_w, i32_w]
          rfl
         refine pure_ (i := 31) (N := some 173) (v := undef) (a' := ?_) (bm 44 4294967295) rfl rfl (any_of HT_.out (by kernel_rfl)) (fun _ _ _ h => h) (Or.inr ⟨by rfl, rfl⟩) ?_ ?_
         rotate_left
         ·
          simp only [Act.put, List.setIfInBounds_toArray, List.set_cons_zero, List.set_cons_succ, i64_w, i32_w]
          rfl
         refine pure_ (i := 32) (N := some 174) (v := undef) (a' := ?_) (bm 44 8589934591) rfl rfl (any_of HT_.out (by kernel_rfl)) (fun _ _ _ h => h) (Or.inr ⟨by rfl, rfl⟩) ?_ ?_
         rotate_left
         ·
          simp only [Act.put, List.setIfInBounds_toArray, List.set_cons_zero, List.set_cons_succ, i64_w, i32_w]
          rfl
         refine pure_ (i := 33) (N := some 175) (v := undef) (a' := ?_) (bm 44 17179869183) rfl rfl (any_of HT_.out (by kernel_rfl)) (fun _ _ _ h => h) (Or.inr ⟨by rfl, rfl⟩) ?_ ?_
         rotate_left
         ·
          simp only [Act.put, List.setIfInBounds_toArray, List.set_cons_zero, List.set_cons_succ, i64_w, i32_w]
          rfl
         refine pure_ (i := 34) (N := some 176) (v := undef) (a' := ?_) (bm 44 34359738367) rfl rfl (any_of HT_.out (by kernel_rfl)) (fun _ _ _ h => h) (Or.inr ⟨by rfl, rfl⟩) ?_ ?_
         rotate_left
         ·
          simp only [Act.put, List.setIfInBounds_toArray, List.set_cons_zero, List.set_cons_succ, i64_w, i32_w]
          rfl
         refine pure_ (i := 35) (N := some 177) (v := undef) (a' := ?_) (bm 44 68719476735) rfl rfl (any_of HT_.out (by kernel_rfl)) (fun _ _ _ h => h) (Or.inr ⟨by rfl, rfl⟩) ?_ ?_
         rotate_left
         ·
          simp only [Act.put, List.setIfInBounds_toArray, List.set_cons_zero, List.set_cons_succ, i64_w, i32_w]
          rfl
         refine pure_ (i := 36) (N := some 178) (v := undef) (a' := ?_) (bm 44 137438953471) rfl rfl (any_of HT_.out (by kernel_rfl)) (fun _ _ _ h => h) (Or.inr ⟨by rfl, rfl⟩) ?_ ?_
         rotate_left
         ·
          simp only [Act.put, List.setIfInBounds_toArray, List.set_cons_zero, List.set_cons_succ, i64_w, i32_w]
          rfl
         refine pure_ (i := 37) (N := some 179) (v := undef) (a' := ?_) (bm 44 274877906943) rfl rfl (any_of HT_.out (by kernel_rfl)) (fun _ _ _ h => h) (Or.inr ⟨by rfl, rfl⟩) ?_ ?_
         rotate_left
         ·
          simp only [Act.put, List.setIfInBounds_toArray, List.set_cons_zero, List.set_cons_succ, i64_w, i32_w]
          rfl
         refine pure_ (i := 38) (N := some 180) (v := undef) (a' := ?_) (bm 44 549755813887) rfl rfl (any_of HT_.out (by kernel_rfl)) (fun _ _ _ h => h) (Or.inr ⟨by rfl, rfl⟩) ?_ ?_
         rotate_left
         ·
          simp only [Act.put, List.setIfInBounds_toArray, List.set_cons_zero, List.set_cons_succ, i64_w, i32_w]
          rfl
         refine pure_ (i := 39) (N := some 181) (v := undef) (a' := ?_) (bm 44 1099511627775) rfl rfl (any_of HT_.out (by kernel_rfl)) (fun _ _ _ h => h) (Or.inr ⟨by rfl, rfl⟩) ?_ ?_
         rotate_left
         ·
          simp only [Act.put, List.setIfInBounds_toArray, List.set_cons_zero, List.set_cons_succ, i64_w, i32_w]
          rfl
         refine pure_ (i := 40) (N := some 182) (v := undef) (a' := ?_) (bm 44 2199023255551) rfl rfl (any_of HT_.out (by kernel_rfl)) (fun _ _ _ h => h) (Or.inr ⟨by rfl, rfl⟩) ?_ ?_
         rotate_left
         ·
          simp only [Act.put, List.setIfInBounds_toArray, List.set_cons_zero, List.set_cons_succ, i64_w, i32_w]
          rfl
         refine pure_ (i := 41) (N := some 183) (v := undef) (a' := ?_) (bm 44 4398046511103) rfl rfl (any_of HT_.out (by kernel_rfl)) (fun _ _ _ h => h) (Or.inr ⟨by rfl, rfl⟩) ?_ ?_
         rotate_left
         ·
          simp only [Act.put, List.setIfInBounds_toArray, List.set_cons_zero, List.set_cons_succ, i64_w, i32_w]
          rfl
         refine pure_ (i := 42) (N := some 184) (v := ?_) (a' := ?_) (bm 44 8796093022207) rfl rfl (any_of HT_.out (by kernel_rfl)) (fun _ _ _ h => h) (Or.inl ⟨by rfl, ?_⟩) ?_ ?_
         rotate_left
         ·
          intro w'
          go_simp
          with_reducible rfl
         rotate_left
         ·
          simp only [Act.put, List.setIfInBounds_toArray, List.set_cons_zero, List.set_cons_succ, i64_w, i32_w]
          rfl
         refine pure_ (i := 43) (N := some 185) (v := ?_) (a' := ?_) (bm 44 17592186044415) rfl rfl (any_of HT_.out (by kernel_rfl)) (fun _ _ _ h => h) (Or.inl ⟨by rfl, ?_⟩) ?_ ?_
         rotate_left
         ·
          intro w'
          go_simp
          with_reducible rfl
         rotate_left
         ·
          simp only [Act.put, List.setIfInBounds_toArray, List.set_cons_zero, List.set_cons_succ, i64_w, i32_w]
          rfl
         refine done_ (done_of HT_.out (by kernel_rfl)) ?_
         go_wp2_with (fail)
         go_roundw
         case rel => exact ⟨k + 1, by omega, by go_num, hBd.drewN nd1, by rw [HR.out]; exact HE2.out⟩
         case measure => simp [intOf]; omega
        ·
         obtain ⟨j, y, B1, b1, hkj, rfl, hyl, hcy, hyc, hY⟩ := hx0.out (by omega)
         have he : (!decide (0 ≤ cmpL cmpI y x) && R) = FB := by rw [← HE.out, hok]; dsimp only; rw [if_neg hk1]; rfl
         have HE2 := hid_ he
         clear HE hx0 he hxd hok
         have hY5 : (Kd.int .i64).C wr.drew B1 y.length y := Kd.C_drew hY
         have d4 : decide ((0 : Int) < (k : Int)) = true := decide_eq_true (by omega)
         have d5 : decide (0 < k) = true := decide_eq_true (by omega)
         have ek : wrap64 ((k : Int) - 1) = (j : Int) := by rw [wrap_ _ (by omega) (by omega)]; omega
         have hj0 : 0 ≤ (j : Int) := by omega
         have hj1 : (j : Int) < (g.M.length : Int) := by omega
         clear hkj hk1
         go_wp2_with (fail)
         refine start_ (n := 44) (S := fun w' => w'.cell? ⟨w.heap.size, 3, none⟩ = some (.slice (some ad) g.M.length c3) ∧ w'.cell? (ad.add k) = some (.slice B0 x.length b0) ∧ w'.cell? (ad.add j) = some (.slice B1 y.length b1)) (ds := []) (bm 44 0) (by kernel_rfl) rfl (by kernel_rfl) ⟨q3, hcell, hcy⟩ (fun hHeld => ?_)
         refine with_tabW hasForm.tab15 hasForm.bits15 (fun HT_ HW_ => ?_)
         generalize wr.drew = w5 at hHeld hBd hK5 hY5 ⊢
         refine pure_ (i := 0) (N := some 142) (v := ?_) (a' := ?_) (bm 44 1) rfl rfl (any_of HT_.out (by kernel_rfl)) (fun _ _ _ h => h) (Or.inl ⟨by rfl, ?_⟩) ?_ ?_
         rotate_left
         ·
          intro w'
          go_simp
          with_reducible rfl
         rotate_left
         ·
          simp only [Act.put, List.setIfInBounds_toArray, List.set_cons_zero, List.set_cons_succ, i64_w, i32_w]
          rfl
         refine pure_ (i := 2) (N := some 144) (v := ?_) (a' := ?_) (bm 44 5) rfl rfl (any_of HT_.out (by kernel_rfl)) (fun _ _ _ h => h) (Or.inl ⟨by rfl, ?_⟩) ?_ ?_
         rotate_left
         ·
          intro w'
          go_simp
          with_reducible rfl
         rotate_left
         ·
          simp only [Act.put, List.setIfInBounds_toArray, List.set_cons_zero, List.set_cons_succ, i64_w, i32_w]
          rfl
         refine take_ (i := 1) (N := some 143) (v := ?_) (a' := ?_) (bm 44 7) rfl rfl (take_ofW HT_.out HW_.out (by kernel_rfl)) (fun _ _ _ h => h) (Or.inl ⟨by rfl, ?_⟩) hHeld ?_ ?_
         rotate_left
         ·
          rintro w' ⟨s0, s1, s2⟩
          go_simp
          with_reducible rfl
         rotate_left
         ·
          simp only [Act.put, List.setIfInBounds_toArray, List.set_cons_zero, List.set_cons_succ, i64_w, i32_w]
          rfl
         refine pure_ (i := 3) (N := some 145) (v := ?_) (a' := ?_) (bm 44 15) rfl rfl (any_of HT_.out (by kernel_rfl)) (fun _ _ _ h => h) (Or.inl ⟨by rfl, ?_⟩) ?_ ?_
         rotate_left
         ·
          intro w'
          go_simp
          with_reducible rfl
         rotate_left
         ·
          simp only [Act.put, List.setIfInBounds_toArray, List.set_cons_zero, List.set_cons_succ, i64_w, i32_w]
          rfl
         refine take_ (i := 4) (N := some 146) (v := ?_) (a' := ?_) (bm 44 31) rfl rfl (take_ofW HT_.out HW_.out (by kernel_rfl)) (fun _ _ _ h => h) (Or.inl ⟨by rfl, ?_⟩) hHeld ?_ ?_
         rotate_left
         ·
          rintro w' ⟨s0, s1, s2⟩
          go_simp
          with_reducible rfl
         rotate_left
         ·
          simp only [Act.put, List.setIfInBounds_toArray, List.set_cons_zero, List.set_cons_succ, i64_w, i32_w]
          rfl
         refine pure_ (i := 5) (N := some 147) (v := ?_) (a' := ?_) (bm 44 63) rfl rfl (any_of HT_.out (by kernel_rfl)) (fun _ _ _ h => h) (Or.inl ⟨by rfl, ?_⟩) ?_ ?_
         rotate_left
         ·
          intro w'
          go_simp
          with_reducible rfl
         rotate_left
         ·
          simp only [Act.put, List.setIfInBounds_toArray, List.set_cons_zero, List.set_cons_succ, i64_w, i32_w]
          rfl
         refine pure_ (i := 6) (N := some 148) (v := ?_) (a' := ?_) (bm 44 127) rfl rfl (any_of HT_.out (by kernel_rfl)) (fun _ _ _ h => h) (Or.inl ⟨by rfl, ?_⟩) ?_ ?_
         rotate_left
         ·
          intro w'
          go_simp
          with_reducible rfl
         rotate_left
         ·
          simp only [Act.put, List.setIfInBounds_toArray, List.set_cons_zero, List.set_cons_succ, i64_w, i32_w]
          rfl
         refine pure_ (i := 7) (N := some 149) (v := ?_) (a' := ?_) (bm 44 255) rfl rfl (any_of HT_.out (by kernel_rfl)) (fun _ _ _ h => h) (Or.inl ⟨by rfl, ?_⟩) ?_ ?_
         rotate_left
         ·
          intro w'
          go_simp
          with_reducible rfl
         rotate_left
         ·
          simp only [Act.put, List.setIfInBounds_toArray, List.set_cons_zero, List.set_cons_succ, i64_w, i32_w]
          rfl
         refine pure_ (i := 8) (N := some 150) (v := ?_) (a' := ?_) (bm 44 511) rfl rfl (any_of HT_.out (by kernel_rfl)) (fun _ _ _ h => h) (Or.inl ⟨by rfl, ?_⟩) ?_ ?_
         rotate_left
         ·
          intro w'
          go_simp
          with_reducible rfl
         rotate_left
         ·
          simp only [Act.put, List.setIfInBounds_toArray, List.set_cons_zero, List.set_cons_succ, i64_w, i32_w]
          rfl
         refine pure_ (i := 10) (N := some 152) (v := ?_) (a' := ?_) (bm 44 1535) rfl rfl (any_of HT_.out (by kernel_rfl)) (fun _ _ _ h => h) (Or.inl ⟨by rfl, ?_⟩) ?_ ?_
         rotate_left
         ·
          intro w'
          go_simp
          with_reducible rfl
         rotate_left
         ·
          simp only [Act.put, List.setIfInBounds_toArray, List.set_cons_zero, List.set_cons_succ, i64_w, i32_w]
          rfl
         refine take_ (i := 9) (N := some 151) (v := ?_) (a' := ?_) (bm 44 2047) rfl rfl (take_ofW HT_.out HW_.out (by kernel_rfl)) (fun _ _ _ h => h) (Or.inl ⟨by rfl, ?_⟩) hHeld ?_ ?_
         rotate_left
         ·
          rintro w' ⟨s0, s1, s2⟩
          go_simp
          with_reducible rfl
         rotate_left
         ·
          simp only [Act.put, List.setIfInBounds_toArray, List.set_cons_zero, List.set_cons_succ, i64_w, i32_w]
          rfl
         refine pure_ (i := 11) (N := some 153) (v := ?_) (a' := ?_) (bm 44 4095) rfl rfl (any_of HT_.out (by kernel_rfl)) (fun _ _ _ h => h) (Or.inl ⟨by rfl, ?_⟩) ?_ ?_
         rotate_left
         ·
          intro w'
          go_simp
          with_reducible rfl
         rotate_left
         ·
          simp only [Act.put, List.setIfInBounds_toArray, List.set_cons_zero, List.set_cons_succ, i64_w, i32_w]
          rfl
         refine take_ (i := 12) (N := some 154) (v := ?_) (a' := ?_) (bm 44 8191) rfl rfl (take_ofW HT_.out HW_.out (by kernel_rfl)) (fun _ _ _ h => h) (Or.inl ⟨by rfl, ?_⟩) hHeld ?_ ?_
         rotate_left
         ·
          rintro w' ⟨s0, s1, s2⟩
          go_simp
          with_reducible rfl
         rotate_left
         ·
          simp only [Act.put, List.setIfInBounds_toArray, List.set_cons_zero, List.set_cons_succ, i64_w, i32_w]
          rfl
         refine pure_ (i := 13) (N := some 155) (v := ?_) (a' := ?_) (bm 44 16383) rfl rfl (any_of HT_.out (by kernel_rfl)) (fun _ _ _ h => h) (Or.inl ⟨by rfl, ?_⟩) ?_ ?_
         rotate_left
         ·
          intro w'
          go_simp
          with_reducible rfl
         rotate_left
         ·
          simp only [Act.put, List.setIfInBounds_toArray, List.set_cons_zero, List.set_cons_succ, i64_w, i32_w]
          rfl
         refine pure_ (i := 14) (N := some 156) (v := ?_) (a' := ?_) (bm 44 32767) rfl rfl (any_of HT_.out (by kernel_rfl)) (fun _ _ _ h => h) (Or.inl ⟨by rfl, ?_⟩) ?_ ?_
         rotate_left
         ·
          intro w'
          go_simp
          with_reducible rfl
         rotate_left
         ·
          simp only [Act.put, List.setIfInBounds_toArray, List.set_cons_zero, List.set_cons_succ, i64_w, i32_w]
          rfl
         refine pure_ (i := 15) (N := some 157) (v := ?_) (a' := ?_) (bm 44 65535) rfl rfl (any_of HT_.out (by kernel_rfl)) (fun _ _ _ h => h) (Or.inl ⟨by rfl, ?_⟩) ?_ ?_
         rotate_left
         ·
          intro w'
          go_simp
          with_reducible rfl
         rotate_left
         ·
          simp only [Act.put, List.setIfInBounds_toArray, List.set_cons_zero, List.set_cons_succ, i64_w, i32_w]
          rfl
         refine pure_ (i := 16) (N := some 158) (v := ?_) (a' := ?_) (bm 44 131071) rfl rfl (any_of HT_.out (by kernel_rfl)) (fun _ _ _ h => h) (Or.inl ⟨by rfl, ?_⟩) ?_ ?_
         rotate_left
         ·
          intro w'
          go_simp
          with_reducible rfl
         rotate_left
         ·
          simp only [Act.put, List.setIfInBounds_toArray, List.set_cons_zero, List.set_cons_succ, i64_w, i32_w]
          rfl
         refine pure_ (i := 17) (N := some 159) (v := ?_) (a' := ?_) (bm 44 262143) rfl rfl (any_of HT_.out (by kernel_rfl)) (fun _ _ _ h => h) (Or.inl ⟨by rfl, ?_⟩) ?_ ?_
         rotate_left
         ·
          intro w'
          go_simp
          with_reducible rfl
         rotate_left
         ·
          simp only [Act.put, List.setIfInBounds_toArray, List.set_cons_zero, List.set_cons_succ, i64_w, i32_w]
          rfl
         refine pure_ (i := 19) (N := some 161) (v := ?_) (a' := ?_) (bm 44 786431) rfl rfl (any_of HT_.out (by kernel_rfl)) (fun _ _ _ h => h) (Or.inl ⟨by rfl, ?_⟩) ?_ ?_
         rotate_left
         ·
          intro w'
          go_simp
          with_reducible rfl
         rotate_left
         ·
          simp only [Act.put, List.setIfInBounds_toArray, List.set_cons_zero, List.set_cons_succ, i64_w, i32_w]
          rfl
         refine take_ (i := 18) (N := some 160) (v := ?_) (a' := ?_) (bm 44 1048575) rfl rfl (take_ofW HT_.out HW_.out (by kernel_rfl)) (fun _ _ _ h => h) (Or.inl ⟨by rfl, ?_⟩) hHeld ?_ ?_
         rotate_left
         ·
          rintro w' ⟨s0, s1, s2⟩
          go_simp
          with_reducible rfl
         rotate_left
         ·
          simp only [Act.put, List.setIfInBounds_toArray, List.set_cons_zero, List.set_cons_succ, i64_w, i32_w]
          rfl
         refine pure_ (i := 20) (N := some 162) (v := ?_) (a' := ?_) (bm 44 2097151) rfl rfl (any_of HT_.out (by kernel_rfl)) (fun _ _ _ h => h) (Or.inl ⟨by rfl, ?_⟩) ?_ ?_
         rotate_left
         ·
          intro w'
          go_simp
          with_reducible rfl
         rotate_left
         ·
          simp only [Act.put, List.setIfInBounds_toArray, List.set_cons_zero, List.set_cons_succ, i64_w, i32_w]
          rfl
         refine take_ (i := 21) (N := some 163) (v := ?_) (a' := ?_) (bm 44 4194303) rfl rfl (take_ofW HT_.out HW_.out (by kernel_rfl)) (fun _ _ _ h => h) (Or.inl ⟨by rfl, ?_⟩) hHeld ?_ ?_
         rotate_left
         ·
          rintro w' ⟨s0, s1, s2⟩
          go_simp
          with_reducible rfl
         rotate_left
         ·
          simp only [Act.put, List.setIfInBounds_toArray, List.set_cons_zero, List.set_cons_succ, i64_w, i32_w]
          rfl
         refine one_ (i := 22) (N := some 164) (bm 44 8388607) rfl rfl (one_of HT_.out (by kernel_rfl)) (by decide) (fun K hK => ?_)
         refine goes_ Try.func65 (by kernel_rfl) rfl #[.slice B0 x.length b0] (by rfl) rfl rfl (by (try simp only [List.map_toArray, List.map_cons, List.map_nil]); first | done | rfl) ?_
         have HTc := numsFit_any w5 B0 b0 x hK5 hcap (by omega)
         rw [hT] at HTc
         with_reducible refine HTc.mono ?_
         rintro e w' ⟨rfl, ⟨nd1, rfl⟩⟩
         refine ⟨_, rfl, ?_⟩
         refine hK.out _ _ hHeld (fun hHeld => ?_)
         clear hK K
         refine norm_ (a' := ?_) ?_ ?_
         rotate_left
         ·
          show Act.put _ (some 164) _ = _
          simp only [Act.put, List.setIfInBounds_toArray, List.set_cons_zero, List.set_cons_succ, i64_w, i32_w]
          rfl
         refine pure_ (i := 23) (N := some 165) (v := ?_) (a' := ?_) (bm 44 16777215) rfl rfl (any_of HT_.out (by kernel_rfl)) (fun _ _ _ h => h) (Or.inl ⟨by rfl, ?_⟩) ?_ ?_
         rotate_left
         ·
          intro w'
          go_simp
          with_reducible rfl
         rotate_left
         ·
          simp only [Act.put, List.setIfInBounds_toArray, List.set_cons_zero, List.set_cons_succ, i64_w, i32_w]
          rfl
         refine pure_ (i := 24) (N := some 166) (v := ?_) (a' := ?_) (bm 44 33554431) rfl rfl (any_of HT_.out (by kernel_rfl)) (fun _ _ _ h => h) (Or.inl ⟨by rfl, ?_⟩) ?_ ?_
         rotate_left
         ·
          intro w'
          go_simp
          with_reducible rfl
         rotate_left
         ·
          simp only [Act.put, List.setIfInBounds_toArray, List.set_cons_zero, List.set_cons_succ, i64_w, i32_w]
          rfl
         refine pure_ (i := 25) (N := some 167) (v := ?_) (a' := ?_) (bm 44 67108863) rfl rfl (any_of HT_.out (by kernel_rfl)) (fun _ _ _ h => h) (Or.inl ⟨by rfl, ?_⟩) ?_ ?_
         rotate_left
         ·
          intro w'
          go_simp
          with_reducible rfl
         rotate_left
         ·
          simp only [Act.put, List.setIfInBounds_toArray, List.set_cons_zero, List.set_cons_succ, i64_w, i32_w]
          rfl
         refine pure_ (i := 26) (N := some 168) (v := ?_) (a' := ?_) (bm 44 134217727) rfl rfl (any_of HT_.out (by kernel_rfl)) (fun _ _ _ h => h) (Or.inl ⟨by rfl, ?_⟩) ?_ ?_
         rotate_left
         ·
          intro w'
          go_simp
          with_reducible rfl
         rotate_left
         ·
          simp only [Act.put, List.setIfInBounds_toArray, List.set_cons_zero, List.set_cons_succ, i64_w, i32_w]
          rfl
         refine pure_ (i := 27) (N := some 169) (v := ?_) (a' := ?_) (bm 44 268435455) rfl rfl (any_of HT_.out (by kernel_rfl)) (fun _ _ _ h => h) (Or.inl ⟨by rfl, ?_⟩) ?_ ?_
         rotate_left
         ·
          intro w'
          go_simp
          with_reducible rfl
         rotate_left
         ·
          simp only [Act.put, List.setIfInBounds_toArray, List.set_cons_zero, List.set_cons_succ, i64_w, i32_w]
          rfl
         refine pure_ (i := 28) (N := some 170) (v := ?_) (a' := ?_) (bm 44 536870911) rfl rfl (any_of HT_.out (by kernel_rfl)) (fun _ _ _ h => h) (Or.inl ⟨by rfl, ?_⟩) ?_ ?_
         rotate_left
         ·
          intro w'
          go_simp
          with_reducible rfl
         rotate_left
         ·
          simp only [Act.put, List.setIfInBounds_toArray, List.set_cons_zero, List.set_cons_succ, i64_w, i32_w]
          rfl
         refine pure_ (i := 29) (N := some 171) (v := ?_) (a' := ?_) (bm 44 1073741823) rfl rfl (any_of HT_.out (by kernel_rfl)) (fun _ _ _ h => h) (Or.inl ⟨by rfl, ?_⟩) ?_ ?_
         rotate_left
         ·
          intro w'
          go_simp
          with_reducible rfl
         rotate_left
         ·
          simp only [Act.put, List.setIfInBounds_toArray, List.set_cons_zero, List.set_cons_succ, i64_w, i32_w]
          rfl
         refine pure_ (i := 31) (N := some 173) (v := ?_) (a' := ?_) (bm 44 3221225471) rfl rfl (any_of HT_.out (by kernel_rfl)) (fun _ _ _ h => h) (Or.inl ⟨by rfl, ?_⟩) ?_ ?_
         rotate_left
         ·
          intro w'
          go_simp
          with_reducible rfl
         rotate_left
         ·
          simp only [Act.put, List.setIfInBounds_toArray, List.set_cons_zero, List.set_cons_succ, i64_w, i32_w]
          rfl
         refine pure_ (i := 32) (N := some 174) (v := ?_) (a' := ?_) (bm 44 7516192767) rfl rfl (any_of HT_.out (by kernel_rfl)) (fun _ _ _ h => h) (Or.inl ⟨by rfl, ?_⟩) ?_ ?_
         rotate_left
         ·
          intro w'
          go_simp
          with_reducible rfl
         rotate_left
         ·
          simp only [Act.put, List.setIfInBounds_toArray, List.set_cons_zero, List.set_cons_succ, i64_w, i32_w]
          rfl
         refine pure_ (i := 35) (N := some 177) (v := ?_) (a' := ?_) (bm 44 41875931135) rfl rfl (any_of HT_.out (by kernel_rfl)) (fun _ _ _ h => h) (Or.inl ⟨by rfl, ?_⟩) ?_ ?_
         rotate_left
         ·
          intro w'
          go_simp
          with_reducible rfl
         rotate_left
         ·
          simp only [Act.put, List.setIfInBounds_toArray, List.set_cons_zero, List.set_cons_succ, i64_w, i32_w]
          rfl
         refine pure_ (i := 37) (N := some 179) (v := ?_) (a' := ?_) (bm 44 179314884607) rfl rfl (any_of HT_.out (by kernel_rfl)) (fun _ _ _ h => h) (Or.inl ⟨by rfl, ?_⟩) ?_ ?_
         rotate_left
         ·
          intro w'
          go_simp
          with_reducible rfl
         rotate_left
         ·
          simp only [Act.put, List.setIfInBounds_toArray, List.set_cons_zero, List.set_cons_succ, i64_w, i32_w]
          rfl
         refine take_ (i := 30) (N := some 172) (v := ?_) (a' := ?_) (bm 44 180388626431) rfl rfl (take_ofW HT_.out HW_.out (by kernel_rfl)) (fun _ _ _ h => h) (Or.inl ⟨by rfl, ?_⟩) hHeld ?_ ?_
         rotate_left
         ·
          rintro w' ⟨s0, s1, s2⟩
          go_simp
          with_reducible rfl
         rotate_left
         ·
          simp only [Act.put, List.setIfInBounds_toArray, List.set_cons_zero, List.set_cons_succ, i64_w, i32_w]
          rfl
         refine pure_ (i := 33) (N := some 175) (v := ?_) (a' := ?_) (bm 44 188978561023) rfl rfl (any_of HT_.out (by kernel_rfl)) (fun _ _ _ h => h) (Or.inl ⟨by rfl, ?_⟩) ?_ ?_
         rotate_left
         ·
          intro w'
          go_simp
          with_reducible rfl
         rotate_left
         ·
          simp only [Act.put, List.setIfInBounds_toArray, List.set_cons_zero, List.set_cons_succ, i64_w, i32_w]
          rfl
         refine take_ (i := 34) (N := some 176) (v := ?_) (a' := ?_) (bm 44 206158430207) rfl rfl (take_ofW HT_.out HW_.out (by kernel_rfl)) (fun _ _ _ h => h) (Or.inl ⟨by rfl, ?_⟩) hHeld ?_ ?_
         rotate_left
         ·
          rintro w' ⟨s0, s1, s2⟩
          go_simp
          with_reducible rfl
         rotate_left
         ·
          simp only [Act.put, List.setIfInBounds_toArray, List.set_cons_zero, List.set_cons_succ, i64_w, i32_w]
          rfl
         refine take_ (i := 36) (N := some 178) (v := ?_) (a' := ?_) (bm 44 274877906943) rfl rfl (take_ofW HT_.out HW_.out (by kernel_rfl)) (fun _ _ _ h => h) (Or.inl ⟨by rfl, ?_⟩) hHeld ?_ ?_
         rotate_left
         ·
          rintro w' ⟨s0, s1, s2⟩
          go_simp
          with_reducible rfl
         rotate_left
         ·
          simp only [Act.put, List.setIfInBounds_toArray, List.set_cons_zero, List.set_cons_succ, i64_w, i32_w]
          rfl
         refine pure_ (i := 38) (N := some 180) (v := ?_) (a' := ?_) (bm 44 549755813887) rfl rfl (any_of HT_.out (by kernel_rfl)) (fun _ _ _ h => h) (Or.inl ⟨by rfl, ?_⟩) ?_ ?_
         rotate_left
         ·
          intro w'
          go_simp
          with_reducible rfl
         rotate_left
         ·
          simp only [Act.put, List.setIfInBounds_toArray, List.set_cons_zero, List.set_cons_succ, i64_w, i32_w]
          rfl
         refine take_ (i := 39) (N := some 181) (v := ?_) (a' := ?_) (bm 44 1099511627775) rfl rfl (take_ofW HT_.out HW_.out (by kernel_rfl)) (fun _ _ _ h => h) (Or.inl ⟨by rfl, ?_⟩) hHeld ?_ ?_
         rotate_left
         ·
          rintro w' ⟨s0, s1, s2⟩
          go_simp
          with_reducible rfl
         rotate_left
         ·
          simp only [Act.put, List.setIfInBounds_toArray, List.set_cons_zero, List.set_cons_succ, i64_w, i32_w]
          rfl
         refine one_ (i := 40) (N := some 182) (bm 44 2199023255551) rfl rfl (one_of HT_.out (by kernel_rfl)) (by decide) (fun K hK => ?_)
         refine goes_ Try.func67 (by kernel_rfl) rfl #[.slice B1 y.length b1, .slice B0 x.length b0] (by rfl) rfl rfl (by (try simp only [List.map_toArray, List.map_cons, List.map_nil]); first | done | rfl) ?_
         with_reducible refine (lessI_any (w5.drewN nd1) B1 B0 b1 b0 y x (Kd.C_drewN hY5 nd1) hyc (Kd.C_drewN hK5 nd1) hcap (by omega)).mono ?_
         rintro e w' ⟨rfl, ⟨nd2, rfl⟩⟩
         refine ⟨_, rfl, ?_⟩
         refine hK.out _ _ hHeld (fun hHeld => ?_)
         clear hK K
         refine norm_ (a' := ?_) ?_ ?_
         rotate_left
         ·
          show Act.put _ (some 182) _ = _
          simp only [Act.put, List.setIfInBounds_toArray, List.set_cons_zero, List.set_cons_succ, i64_w, i32_w]
          rfl
         refine pure_ (i := 41) (N := some 183) (v := ?_) (a' := ?_) (bm 44 4398046511103) rfl rfl (any_of HT_.out (by kernel_rfl)) (fun _ _ _ h => h) (Or.inl ⟨by rfl, ?_⟩) ?_ ?_
         rotate_left
         ·
          intro w'
          go_simp
          with_reducible rfl
         rotate_left
         ·
          simp only [Act.put, List.setIfInBounds_toArray, List.set_cons_zero, List.set_cons_succ, i64_w, i32_w]
          rfl
         refine pure_ (i := 42) (N := some 184) (v := ?_) (a' := ?_) (bm 44 8796093022207) rfl rfl (any_of HT_.out (by kernel_rfl)) (fun _ _ _ h => h) (Or.inl ⟨by rfl, ?_⟩) ?_ ?_
         rotate_left
         ·
          intro w'
          go_simp
          with_reducible rfl
         rotate_left
         ·
          simp only [Act.put, List.setIfInBounds_toArray, List.set_cons_zero, List.set_cons_succ, i64_w, i32_w]
          rfl
         refine pure_ (i := 43) (N := some 185) (v := ?_) (a' := ?_) (bm 44 17592186044415) rfl rfl (any_of HT_.out (by kernel_rfl)) (fun _ _ _ h => h) (Or.inl ⟨by rfl, ?_⟩) ?_ ?_
         rotate_left
         ·
          intro w'
          go_simp
          with_reducible rfl
         rotate_left
         ·
          simp only [Act.put, List.setIfInBounds_toArray, List.set_cons_zero, List.set_cons_succ, i64_w, i32_w]
          rfl
         refine done_ (done_of HT_.out (by kernel_rfl)) ?_
         cases hless : decide (0 ≤ cmpL cmpI y x) with
         | true =>
          have e : FB = false := by rw [← HE2.out, hless]; rfl
          subst e
          go_wp2_with (fail)
          go_ret
          exact ⟨rfl, (by first | exact (hBd.drewN _).below | exact ((hBd.drewN nd1).drewN nd2).below)⟩
         | false =>
          go_wp2_with (fail)
          go_roundw
          case rel => exact ⟨k + 1, by omega, by go_num, (by first | exact hBd.drewN _ | exact (hBd.drewN nd1).drewN nd2), by rw [HR.out, ← HE2.out, hless]; rfl⟩
          case measure => simp [intOf]; omega
      ·
       have e : g.C.all instrOK = FB := by rw [← HE.out, risesB_end _ _ _ _ (by omega), Bool.true_and]
       have HF5 := hid_ e
       clear HE e
       have hge : ¬ (k : Int) < (g.M.length : Int) := by omega
       go_wp2_with (fail)
       clear q0 q1 q2 q3 q4 q5 q6 hge hlt hk
       go_loopw [5] (fun i wr => ∃ k : Nat, k ≤ g.C.length ∧ i = .int .i64 k ∧ InBox w wr w.heap.size A0 A1 A2 A3 A4 c0 c1 c2 c3 c4 g ∧ (g.C.drop k).all instrOK = FB) (fun i _ => g.C.length - (intOf i).toNat)
       case atStart => exact ⟨0, by omega, rfl, hB, by rw [List.drop_zero]; exact HF5.out⟩
       case round =>
        clear hB HF5
        obtain ⟨k, hk, rfl, hB, he⟩ := hrel
        have HE := hid_ he; clear he
        obtain ⟨q0, q1, q2, q3, q4, q5, q6⟩ := boxed hB.box
        by_cases hlt : k < g.C.length
        ·
         obtain ⟨ad, rfl, a0, a1, a2, a3⟩ := at_T74 hB.inp.C (k : Int) (by omega) (by omega)
         rw [Int.toNat_natCast] at a0 a1 a2 a3
         have hx : rd_T74 g.C (k : Int) = g.C[k] := by simp [rd_T74, hlt]
         rw [hx] at a0 a1 a2 a3
         have he := HE.out
         rw [List.drop_eq_getElem_cons hlt, List.all_cons] at he
         clear HE hx
         generalize hR : (g.C.drop (k + 1)).all instrOK = R at he
         have HR := hid_ hR; clear hR
         generalize g.C[k] = x at a0 a1 a2 a3 he
         obtain ⟨op, n1, n2, n3⟩ := x
         unfold instrOK at he
         dsimp only at a0 a1 a2 a3 he
         have hlkI : (k : Int) < (g.C.length : Int) := by omega
         have hk0 : 0 ≤ (k : Int) := by omega
         have bel6 := below_alloc hB.below (.cells #[.int .i64 op, .int .i64 n1, .int .i64 n2, .int .i64 n3] 74)
         by_cases hop : ¬ (1 ≤ op ∧ op ≤ 36)
         ·
          have e : FB = false := by rw [← he, decide_eq_false hop]; rfl
          subst e
          clear he
          have hop2 : op < 1 ∨ 36 < op := by omega
          clear hop
          rcases hop2 with hop2 | hop2
          ·
           go_wp2_with (fail)
           go_ret
           exact ⟨rfl, bel6⟩
          ·
           have hop3 : ¬ op < 1 := by omega
           go_wp2_with (fail)
           go_ret
           exact ⟨rfl, bel6⟩
         ·
          replace hop := Classical.not_not.1 hop
          rw [decide_eq_true hop, Bool.true_and] at he
          obtain ⟨hop1, hop2⟩ := hop
          have HE := hid_ he; clear he
          have hop3 : ¬ op < 1 := by omega
          have hop4 : ¬ 36 < op := by omega
          go_wp2_with (fail)
          have hX := heap_alloc_new wr (.cells #[.int .i64 op, .int .i64 n1, .int .i64 n2, .int .i64 n3] 74 (0, 0))
          have hB6 := hB.next (below_alloc (Below.refl wr.heap.size wr) (.cells #[.int .i64 op, .int .i64 n1, .int .i64 n2, .int .i64 n3] 74))
          clear hB bel6 q0 q1 q2 q3 q4 q5 q6 a0 a1 a2 a3
          generalize wr.heap.size = X at hX ⊢
          generalize (wr.alloc (.cells #[.int .i64 op, .int .i64 n1, .int .i64 n2, .int .i64 n3] 74)) = w6 at hX hB6 ⊢
          refine (uses_any w6 op hop1 hop2).mono ?_
          rintro e w7 ⟨rfl, ⟨nd, rfl⟩⟩
          have HE2 := HE.out
          clear HE hop1 hop2 hop3 hop4
          generalize usesV op = u at HE2 ⊢
          obtain ⟨b1, b2, b3⟩ := u
          have HE := hid_ HE2; clear HE2
          have hB7 := hB6.drewN nd
          have hX7 : (w6.drewN nd).heap[X]? = some (.cells #[.int .i64 op, .int .i64 n1, .int .i64 n2, .int .i64 n3] 74 (0, 0)) := hX
          clear hB6 hX
          generalize w6.drewN nd = w7 at hB7 hX7 ⊢
          have x1 : w7.cell? ⟨X, 1, none⟩ = some (.int .i64 n1) := by simp [World.cell?, hX7]
          dsimp only at HE ⊢
          go_wp2_with (fail)
          refine (operandFits_any w7 n1 b1).mono ?_
          rintro e w8 ⟨rfl, ⟨nd1, rfl⟩⟩
          have hB8 := hB7.drewN nd1
          have hX8 : (w7.drewN nd1).heap[X]? = some (.cells #[.int .i64 op, .int .i64 n1, .int .i64 n2, .int .i64 n3] 74 (0, 0)) := hX7
          clear hB7 hX7 x1
          generalize w7.drewN nd1 = w8 at hB8 hX8 ⊢
          cases h1 : opOK b1 n1 with
          | false =>
           have e : FB = false := by rw [← HE.out, h1]; rfl
           subst e
           go_wp2_with (fail)
           go_ret
           exact ⟨rfl, hB8.below⟩
          | true =>
           have x2 : w8.cell? ⟨X, 2, none⟩ = some (.int .i64 n2) := by simp [World.cell?, hX8]
           go_wp2_with (fail)
           refine (operandFits_any w8 n2 b2).mono ?_
           rintro e w9 ⟨rfl, ⟨nd2, rfl⟩⟩
           have hB9 := hB8.drewN nd2
           have hX9 : (w8.drewN nd2).heap[X]? = some (.cells #[.int .i64 op, .int .i64 n1, .int .i64 n2, .int .i64 n3] 74 (0, 0)) := hX8
           clear hB8 hX8 x2
           generalize w8.drewN nd2 = w9 at hB9 hX9 ⊢
           cases h2 : opOK b2 n2 with
           | false =>
            have e : FB = false := by rw [← HE.out, h1, h2]; rfl
            subst e
            go_wp2_with (fail)
            go_ret
            exact ⟨rfl, hB9.below⟩
           | true =>
            have x3 : w9.cell? ⟨X, 3, none⟩ = some (.int .i64 n3) := by simp [World.cell?, hX9]
            go_wp2_with (fail)
            refine (operandFits_any w9 n3 b3).mono ?_
            rintro e w10 ⟨rfl, ⟨nd3, rfl⟩⟩
            have hB10 := hB9.drewN nd3
            clear hB9 hX9 x3
            generalize w9.drewN nd3 = w10 at hB10 ⊢
            cases h3 : opOK b3 n3 with
            | false =>
             have e : FB = false := by rw [← HE.out, h1, h2, h3]; rfl
             subst e
             go_wp2_with (fail)
             go_ret
             exact ⟨rfl, hB10.below⟩
            | true =>
             have e : R = FB := by
              have := HE.out
              rw [h1, h2, h3] at this
              simpa using this
             have HE2 := hid_ e
             clear HE e
             go_wp2_with (fail)
             go_roundw
             case rel => exact ⟨k + 1, by omega, by go_num, hB10, by rw [HR.out]; exact HE2.out⟩
             case measure => simp [intOf]; omega
        ·
         have e : true = FB := by rw [← HE.out, List.drop_eq_nil_of_le (by omega)]; rfl
         subst e
         have hge : ¬ (k : Int) < (g.C.length : Int) := by omega
         have bel := hB.below
         clear HE
         go_wp2_with (fail)
         go_ret
         exact ⟨rfl, bel⟩
end Go.Proofs.Ytlocnfkkfpfpfaa.D
