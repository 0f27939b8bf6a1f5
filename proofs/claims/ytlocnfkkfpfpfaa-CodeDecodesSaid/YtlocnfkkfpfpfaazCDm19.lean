/- Where bytes hold no program, the fault has one of the seven numbers, and a place within the bytes. -/
import Derived.Test.YtlocnfkkfpfpfaazCDm18
namespace Go.Proofs.Ytlocnfkkfpfpfaa.D
open Go.RowKit Go.Proofs.YtlocnfkkfpfpfaaW.PrintWords Go.Proofs.YtlocnfkkfpfpfaaW.PrintLast Go.Proofs.YtlocnfkkfpfpfaaW.PrintMore Go.Proofs.Ytlocnfkkfpfpfaa.Six
set_option linter.unusedSimpArgs false
set_option linter.unusedVariables false
def Res {α : Type} (n : Int) (p : Int) (r : Except (Int × Int) (α × Int)) : Prop := (∀ k q, r = .error (k, q) → 200 ≤ k ∧ k ≤ 206 ∧ 0 ≤ q ∧ q ≤ n) ∧ (∀ x q, r = .ok (x, q) → p ≤ q ∧ q ≤ n)
theorem Res.err {α : Type} {n p k q : Int} (h : 200 ≤ k ∧ k ≤ 206 ∧ 0 ≤ q ∧ q ≤ n) : Res (α := α) n p (.error (k, q)) :=
  ⟨fun k2 q2 h2 => by simp only [Except.error.injEq, Prod.mk.injEq] at h2; obtain ⟨rfl, rfl⟩ := h2; exact h, fun x q h => by cases h⟩
theorem Res.ok {α : Type} {n p q : Int} {x : α} (h : p ≤ q ∧ q ≤ n) : Res n p (.ok (x, q)) :=
  ⟨(fun k2 q2 h2 => by cases h2), fun y q2 h2 => by simp only [Except.ok.injEq, Prod.mk.injEq] at h2; obtain ⟨rfl, rfl⟩ := h2; exact h⟩
theorem Res.lower {α : Type} {n p p2 : Int} {r : Except (Int × Int) (α × Int)} (h : Res n p r) (hp : p2 ≤ p) : Res n p2 r := ⟨h.1, fun x q hx => by have := h.2 x q hx; omega⟩
def Tame {α : Type} (n : Int) (f : Int → Except (Int × Int) (α × Int)) : Prop := ∀ p, 0 ≤ p → p ≤ n → Res n p (f p)
theorem Tame.bind {α β : Type} {n : Int} {f : Int → Except (Int × Int) (α × Int)} {g : α → Int → Except (Int × Int) (β × Int)} (hf : Tame n f) (hg : ∀ x, Tame n (g x)) {F : Int → Except (Int × Int) (β × Int)} (hE : ∀ p e, f p = .error e → F p = .error e) (hO : ∀ p x q, f p = .ok (x, q) → F p = g x q) : Tame n F := by
  intro p h0 h1
  have h := hf p h0 h1
  cases hp : f p with
  | error e =>
    obtain ⟨k, q⟩ := e
    rw [hE p _ hp]
    exact Res.err (h.1 k q hp)
  | ok xq =>
    obtain ⟨x, q⟩ := xq
    have := h.2 x q hp
    rw [hO p _ _ hp]
    exact (hg x q (by omega) (by omega)).lower this.1
theorem countL_tame (bs : List Int) (frm lo hi : Int) (hfr : 0 ≤ frm ∧ frm ≤ bs.length) : ∀ (f i : Nat) (p n : Int), f + i = 9 → 1 ≤ f → 0 ≤ p → p ≤ bs.length → Res bs.length p (countL bs frm lo hi f i p n) := by
 intro f
 induction f with
 | zero => intro i p n _ h; omega
 | succ f ih =>
  intro i p n hfi _ h0 h1
  unfold countL
  split
  ·
   exact Res.err (by omega)
  ·
   split
   ·
    exact Res.err (by omega)
   ·
    split
    ·
     next h8 h128 =>
     have : i ≠ 8 := fun h => h8 ⟨h, h128⟩
     exact (ih (i + 1) (p + 1) _ (by omega) (by omega) (by omega) (by omega)).lower (by omega)
    ·
     split
     ·
      exact Res.err (by omega)
     ·
      split
      ·
       exact Res.err (by omega)
      ·
       exact Res.ok (by omega)
theorem countF_tame (bs : List Int) (lo hi : Int) : Tame bs.length (fun p => countF bs p lo hi) := fun p h0 h1 => countL_tame bs p lo hi ⟨h0, h1⟩ 9 0 p 0 rfl (by omega) h0 h1
theorem countF_lo {bs : List Int} {p lo hi n q : Int} (h : countF bs p lo hi = .ok (n, q)) (hlo : 0 ≤ lo) : 0 ≤ n := by
  have := countF_ok h
  omega
theorem numF_tame (bs : List Int) : Tame bs.length (numF bs) := (countF_tame bs 0 2000000000000000000).bind (g := fun n q => .ok (if n % 2 = 1 then -(n / 2) - 1 else n / 2, q)) (fun n q h0 h1 => Res.ok ⟨Int.le_refl _, h1⟩) (by intro p e h; simp only [numF, h]) (by intro p x q h; simp only [numF, h])
theorem textF_tame (bs : List Int) : Tame bs.length (textF bs) := by
 intro p h0 h1
 have h := countF_tame bs 0 127 p h0 h1
 dsimp only at h
 unfold textF
 cases hc : countF bs p 0 127 with
 | error e =>
  obtain ⟨k, q⟩ := e
  exact Res.err (h.1 k q hc)
 | ok xq =>
  obtain ⟨n, q⟩ := xq
  have h2 := h.2 n q hc
  have h3 := countF_lo hc (by omega)
  dsimp only
  split
  ·
   exact Res.err (by omega)
  ·
   exact Res.ok (by omega)
theorem listL_tame {α : Type} (z : α) {n : Int} {one : Int → Except (Int × Int) (α × Int)} (cmp : α → α → Int) (ho : Tame n one) : ∀ (d : Nat) (acc : List α), Tame n (fun q => listL z one cmp d q acc) := by
 intro d
 induction d with
 | zero => intro acc q h0 h1; exact Res.ok ⟨Int.le_refl _, h1⟩
 | succ d ih =>
  intro acc q h0 h1
  have h := ho q h0 h1
  dsimp only [listL]
  cases hc : one q with
  | error e =>
   obtain ⟨k, q⟩ := e
   exact Res.err (h.1 k q hc)
  | ok xq =>
   obtain ⟨x, q2⟩ := xq
   have h2 := h.2 x q2 hc
   dsimp only
   split
   ·
    exact Res.err (by omega)
   ·
    exact (ih _ q2 (by omega) (by omega)).lower h2.1
theorem listF_tame {α : Type} (z : α) {bs : List Int} {one : Int → Except (Int × Int) (α × Int)} (cmp : α → α → Int) (ho : Tame bs.length one) (lo hi : Int) : Tame bs.length (fun p => listF z one cmp bs p lo hi) :=
  (countF_tame bs lo hi).bind (g := fun n q => listL z one cmp n.toNat q []) (fun n => listL_tame z cmp ho n.toNat []) (by intro p e h; simp only [listF, h]) (by intro p x q h; simp only [listF, h])
theorem textsF_tame (bs : List Int) : Tame bs.length (textsF bs) := listF_tame _ _ (textF_tame bs) 1 1000
theorem numsF_tame (bs : List Int) : Tame bs.length (numsF bs) := listF_tame _ _ (numF_tame bs) 1 1000
theorem getN_tame (bs : List Int) (b : Bool) (d : Int) : Tame bs.length (getN bs b d) := by
 intro p h0 h1
 unfold getN
 split
 ·
  exact countF_tame bs 0 65535 p h0 h1
 ·
  exact Res.ok ⟨Int.le_refl _, h1⟩
theorem instrL_tame (bs : List Int) (u : Bool × Bool × Bool) (op a b c : Int) : Tame bs.length (instrL bs u op 0 a b c) :=
  (getN_tame bs u.1 a).bind (g := fun a q => instrL bs u op 1 a b c q) (fun a => (getN_tame bs u.2.1 b).bind (g := fun b q => instrL bs u op 2 a b c q) (fun b => (getN_tame bs u.2.2 c).bind (g := fun c q => .ok (⟨op, a, b, c⟩, q)) (fun c q h0 h1 => Res.ok ⟨Int.le_refl _, h1⟩) (by intro p e h; simp only [instrL, h]) (by intro p x q h; simp only [instrL, h]))
    (by intro p e h; simp only [instrL, h]) (by intro p x q h; simp only [instrL, h])) (by intro p e h; simp only [instrL, h]) (by intro p x q h; simp only [instrL, h])
theorem instrF_tame (bs : List Int) : Tame bs.length (instrF bs) := by
 intro p h0 h1
 unfold instrF
 split
 ·
  exact Res.err (by omega)
 ·
  split
  ·
   exact Res.err (by omega)
  ·
   refine Res.lower ?_ (show p ≤ p + 1 by omega)
   exact instrL_tame bs _ _ 0 0 0 (p + 1) (by omega) (by omega)
theorem codeL_tame (bs : List Int) : ∀ (d : Nat) (acc : List S74), Tame bs.length (fun q => codeL bs d q acc) := by
  intro d
  induction d with
  | zero => intro acc q h0 h1; exact Res.ok ⟨Int.le_refl _, h1⟩
  | succ d ih =>
    intro acc
    exact (instrF_tame bs).bind (g := fun x q2 => codeL bs d q2 (acc ++ [x])) (fun x => ih _) (by intro p e h; simp only [codeL, h]) (by intro p x q h; simp only [codeL, h])
theorem pEnd_tame (bs : List Int) (g : Pg) : Tame bs.length (pEnd bs g) := by
 intro q h0 h1
 unfold pEnd
 split
 ·
  exact Res.err (by omega)
 ·
  exact Res.ok ⟨Int.le_refl _, h1⟩
theorem pCode_tame (bs : List Int) (T : List ByteArray) (N : List Int) (S : List (List ByteArray)) (M : List (List Int)) (dep loc : Int) : Tame bs.length (pCode bs T N S M dep loc) :=
  (countF_tame bs 0 32768).bind (g := fun n q => pLoop bs T N S M dep loc n.toNat q []) (fun n => (codeL_tame bs n.toNat []).bind (g := fun C q => pEnd bs ⟨T, N, S, M, C, dep, loc⟩ q) (fun C => pEnd_tame bs _) (by intro p e h; simp only [pLoop, h]) (by intro p x q h; simp only [pLoop, h])) (by intro p e h; simp only [pCode, h]) (by intro p x q h; simp only [pCode, h])
theorem pM_tame (bs : List Int) (T : List ByteArray) (N : List Int) (S : List (List ByteArray)) (dep loc : Int) : Tame bs.length (pM bs T N S dep loc) :=
  (listF_tame [] (cmpL cmpI) (numsF_tame bs) 0 (4096 - T.length - N.length - S.length)).bind (g := fun M q => pCode bs T N S M dep loc q) (fun M => pCode_tame bs T N S M dep loc) (by intro p e h; simp only [pM, h]) (by intro p x q h; simp only [pM, h])
theorem pS_tame (bs : List Int) (T : List ByteArray) (N : List Int) (dep loc : Int) : Tame bs.length (pS bs T N dep loc) :=
  (listF_tame [] (cmpL cmpS) (textsF_tame bs) 0 (4096 - T.length - N.length)).bind (g := fun S q => pM bs T N S dep loc q) (fun S => pM_tame bs T N S dep loc) (by intro p e h; simp only [pS, h]) (by intro p x q h; simp only [pS, h])
theorem pN_tame (bs : List Int) (T : List ByteArray) (dep loc : Int) : Tame bs.length (pN bs T dep loc) :=
  (listF_tame 0 cmpI (numF_tame bs) 0 (4096 - T.length)).bind (g := fun N q => pS bs T N dep loc q) (fun N => pS_tame bs T N dep loc) (by intro p e h; simp only [pN, h]) (by intro p x q h; simp only [pN, h])
theorem pT_tame (bs : List Int) (dep loc : Int) : Tame bs.length (pT bs dep loc) :=
  (listF_tame ByteArray.empty cmpS (textF_tame bs) 0 4096).bind (g := fun T q => pN bs T dep loc q) (fun T => pN_tame bs T dep loc) (by intro p e h; simp only [pT, h]) (by intro p x q h; simp only [pT, h])
theorem pDep_tame (bs : List Int) : Tame bs.length (pDep bs) :=
  (countF_tame bs 0 128).bind (g := fun dep q => pLoc bs dep q) (fun dep => (countF_tame bs 0 1024).bind (g := fun loc q => pT bs dep loc q) (fun loc => pT_tame bs dep loc) (by intro p e h; simp only [pLoc, h]) (by intro p x q h; simp only [pLoc, h])) (by intro p e h; simp only [pDep, h]) (by intro p x q h; simp only [pDep, h])
theorem headL_tame (bs : List Int) : ∀ (d i : Nat) (k q : Int), headL bs d i = some (k, q) → 200 ≤ k ∧ k ≤ 206 ∧ 0 ≤ q ∧ q ≤ bs.length := by
 intro d
 induction d with
 | zero => intro i k q h; cases h
 | succ d ih =>
  intro i k q h
  unfold headL at h
  split at h
  ·
   simp only [Option.some.injEq, Prod.mk.injEq] at h; omega
  ·
   split at h
   ·
    simp only [Option.some.injEq, Prod.mk.injEq] at h; omega
   ·
    exact ih _ k q h
theorem headL_len (bs : List Int) : ∀ (d i : Nat), headL bs d i = none → 0 < d → d + i ≤ bs.length := by
 intro d
 induction d with
 | zero => intro i _ h; omega
 | succ d ih =>
  intro i h _
  unfold headL at h
  split at h
  ·
   cases h
  ·
   split at h
   ·
    cases h
   ·
    by_cases hd : 0 < d
    ·
     have := ih _ h hd; omega
    ·
     omega
theorem program_err (bs : List Int) (k q : Int) (h : programF bs = .error (k, q)) : 200 ≤ k ∧ k ≤ 206 ∧ 0 ≤ q ∧ q ≤ bs.length := by
  unfold programF at h
  cases hh : headL bs 4 0 with
  | some f =>
    obtain ⟨k2, q2⟩ := f
    rw [hh] at h
    simp only [Except.error.injEq, Prod.mk.injEq] at h
    obtain ⟨rfl, rfl⟩ := h
    exact headL_tame bs 4 0 _ _ hh
  | none =>
    rw [hh] at h
    have := headL_len bs 4 0 hh (by omega)
    exact (pDep_tame bs 4 (by omega) (by omega)).1 k q h
end Go.Proofs.Ytlocnfkkfpfpfaa.D
