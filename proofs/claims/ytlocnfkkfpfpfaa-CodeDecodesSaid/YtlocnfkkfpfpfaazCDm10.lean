/- The reader's walks: program: what it computes, and the state between its steps. -/
import Derived.Test.YtlocnfkkfpfpfaazCDm8
import Derived.Test.YtlocnfkkfpfpfaazCDm6
namespace Go.Proofs.Ytlocnfkkfpfpfaa.D
open Go.RowKit Go.Proofs.YtlocnfkkfpfpfaaW.PrintWords Go.Proofs.YtlocnfkkfpfpfaaW.PrintLast Go.Proofs.YtlocnfkkfpfpfaaW.PrintMore Go.Proofs.Ytlocnfkkfpfpfaa.Six
set_option linter.unusedSimpArgs false
set_option linter.unusedVariables false
structure Pg where
  T : List ByteArray
  N : List Int
  S : List (List ByteArray)
  M : List (List Int)
  C : List S74
  dep : Int
  loc : Int
def headB (i : Nat) : Int := if i = 0 then 66 else if i = 1 then 82 else if i = 2 then 84 else 1
def headL (bs : List Int) : Nat → Nat → Option (Int × Int)
  | 0, _ => none
  | d + 1, i => if bs.length ≤ i then some (201, bs.length) else if bs.getD i 0 ≠ headB i then some (200, i) else headL bs d (i + 1)
def codeL (bs : List Int) : Nat → Int → List S74 → Except (Int × Int) (List S74 × Int)
  | 0, q, acc => .ok (acc, q)
  | d + 1, q, acc => match instrF bs q with | .error f => .error f | .ok (x, q2) => codeL bs d q2 (acc ++ [x])
def pEnd (bs : List Int) (g : Pg) (q : Int) : Except (Int × Int) (Pg × Int) := if q < bs.length then .error (206, q) else .ok (g, q)
def pLoop (bs : List Int) (T : List ByteArray) (N : List Int) (S : List (List ByteArray)) (M : List (List Int)) (dep loc : Int) (d : Nat) (q : Int) (C : List S74) : Except (Int × Int) (Pg × Int) :=
  match codeL bs d q C with | .error f => .error f | .ok (C, q) => pEnd bs ⟨T, N, S, M, C, dep, loc⟩ q
def pCode (bs : List Int) (T : List ByteArray) (N : List Int) (S : List (List ByteArray)) (M : List (List Int)) (dep loc q : Int) : Except (Int × Int) (Pg × Int) :=
  match countF bs q 0 32768 with | .error f => .error f | .ok (n, q) => pLoop bs T N S M dep loc n.toNat q []
def pM (bs : List Int) (T : List ByteArray) (N : List Int) (S : List (List ByteArray)) (dep loc q : Int) : Except (Int × Int) (Pg × Int) :=
  match listF [] (numsF bs) (cmpL cmpI) bs q 0 (4096 - T.length - N.length - S.length) with | .error f => .error f | .ok (M, q) => pCode bs T N S M dep loc q
def pS (bs : List Int) (T : List ByteArray) (N : List Int) (dep loc q : Int) : Except (Int × Int) (Pg × Int) :=
  match listF [] (textsF bs) (cmpL cmpS) bs q 0 (4096 - T.length - N.length) with | .error f => .error f | .ok (S, q) => pM bs T N S dep loc q
def pN (bs : List Int) (T : List ByteArray) (dep loc q : Int) : Except (Int × Int) (Pg × Int) :=
  match listF 0 (numF bs) cmpI bs q 0 (4096 - T.length) with | .error f => .error f | .ok (N, q) => pS bs T N dep loc q
def pT (bs : List Int) (dep loc q : Int) : Except (Int × Int) (Pg × Int) :=
  match listF ByteArray.empty (textF bs) cmpS bs q 0 4096 with | .error f => .error f | .ok (T, q) => pN bs T dep loc q
def pLoc (bs : List Int) (dep q : Int) : Except (Int × Int) (Pg × Int) := match countF bs q 0 1024 with | .error f => .error f | .ok (loc, q) => pT bs dep loc q
def pDep (bs : List Int) (q : Int) : Except (Int × Int) (Pg × Int) := match countF bs q 0 128 with | .error f => .error f | .ok (dep, q) => pLoc bs dep q
def programF (bs : List Int) : Except (Int × Int) (Pg × Int) := match headL bs 4 0 with | some f => .error f | none => pDep bs 4
theorem instrF_ahead (bs : List Int) : Ahead bs (instrF bs) := by
 intro p x q hp h
 unfold instrF at h
 split at h
 ·
  simp at h
 split at h
 ·
  simp at h
 ·
  have g : ∀ b d q0 y q1, getN bs b d q0 = .ok (y, q1) → q0 ≤ q1 ∧ (q0 ≤ bs.length → q1 ≤ bs.length) := by
   intro b d q0 y q1 hg
   unfold getN at hg
   split at hg
   ·
    have := countF_ok hg
    omega
   ·
    simp only [Except.ok.injEq, Prod.mk.injEq] at hg
    omega
  simp only [instrL] at h
  split at h
  ·
   simp at h
  rename_i a1 q1 h1
  split at h
  ·
   simp at h
  rename_i a2 q2 h2
  split at h
  ·
   simp at h
  rename_i a3 q3 h3
  simp only [Except.ok.injEq, Prod.mk.injEq] at h
  have := g _ _ _ _ _ h1
  have := g _ _ _ _ _ h2
  have := g _ _ _ _ _ h3
  omega
structure StP (w W : World) (R : Nat) (A : Option Addr) (cp : Nat) (bs : List Int) (q : Int) (B X Z : Nat) (vT vN vS vM vC : Value) (g : Pg) : Prop where
  rd : Rd w W R A cp bs q
  b : W.heap[B]? = some (.cells #[.pointer (some ⟨R, 0, none⟩)] 93 (0, 0))
  x : W.heap[X]? = some (.cells #[vT, vN, vS, vM, vC, .int .i64 g.dep, .int .i64 g.loc] 32 (0, 0))
  z : W.heap[Z]? = some (.cells #[.slice none 0 0, .slice none 0 0, .slice none 0 0, .slice none 0 0, .slice none 0 0, .int .i64 0, .int .i64 0] 32 (0, 0))
  bR : w.heap.size ≤ B
  zR : w.heap.size ≤ Z
  bX : B < X
  zX : Z < X
  ne : B ≠ Z
  rT : Kd.string.R 9 W w.heap.size (fun k => X < k) vT g.T
  rN : (Kd.int .i64).R 3 W w.heap.size (fun k => X < k) vN g.N
  rS : (Kd.slice 9 Kd.string).R 26 W w.heap.size (fun k => X < k) vS g.S
  rM : (Kd.slice 3 (Kd.int .i64)).R 27 W w.heap.size (fun k => X < k) vM g.M
  rC : k74.R 74 W w.heap.size (fun k => X < k) vC g.C
section
variable {w W W2 : World} {R : Nat} {A : Option Addr} {cp : Nat} {bs : List Int} {q q2 : Int} {B X Z : Nat} {vT vN vS vM vC : Value} {g : Pg}
theorem StP.cells (h : StP w W R A cp bs q B X Z vT vN vS vM vC g) :
    W.cell? ⟨B, 0, none⟩ = some (.pointer (some ⟨R, 0, none⟩)) ∧
    W.cell? ⟨X, 0, none⟩ = some vT ∧ W.cell? ⟨X, 1, none⟩ = some vN ∧ W.cell? ⟨X, 2, none⟩ = some vS ∧ W.cell? ⟨X, 3, none⟩ = some vM ∧ W.cell? ⟨X, 4, none⟩ = some vC ∧ W.cell? ⟨X, 5, none⟩ = some (.int .i64 g.dep) ∧ W.cell? ⟨X, 6, none⟩ = some (.int .i64 g.loc) ∧
    W.frozen? ⟨X, 0, none⟩ = false ∧ W.frozen? ⟨X, 1, none⟩ = false ∧ W.frozen? ⟨X, 2, none⟩ = false ∧ W.frozen? ⟨X, 3, none⟩ = false ∧ W.frozen? ⟨X, 4, none⟩ = false ∧ W.frozen? ⟨X, 5, none⟩ = false ∧ W.frozen? ⟨X, 6, none⟩ = false := by
  refine ⟨?_, ?_, ?_, ?_, ?_, ?_, ?_, ?_, ?_, ?_, ?_, ?_, ?_, ?_, ?_⟩ <;> simp [World.cell?, World.frozen?, h.x, h.b]
theorem StP.zcells (h : StP w W R A cp bs q B X Z vT vN vS vM vC g) :
    W.cell? ⟨Z, 0, none⟩ = some (.slice none 0 0) ∧ W.cell? ⟨Z, 1, none⟩ = some (.slice none 0 0) ∧ W.cell? ⟨Z, 2, none⟩ = some (.slice none 0 0) ∧ W.cell? ⟨Z, 3, none⟩ = some (.slice none 0 0) ∧ W.cell? ⟨Z, 4, none⟩ = some (.slice none 0 0) ∧ W.cell? ⟨Z, 5, none⟩ = some (.int .i64 0) ∧ W.cell? ⟨Z, 6, none⟩ = some (.int .i64 0) ∧
    W.frozen? ⟨Z, 0, none⟩ = false ∧ W.frozen? ⟨Z, 1, none⟩ = false ∧ W.frozen? ⟨Z, 2, none⟩ = false ∧ W.frozen? ⟨Z, 3, none⟩ = false ∧ W.frozen? ⟨Z, 4, none⟩ = false ∧ W.frozen? ⟨Z, 5, none⟩ = false ∧ W.frozen? ⟨Z, 6, none⟩ = false := by
  refine ⟨?_, ?_, ?_, ?_, ?_, ?_, ?_, ?_, ?_, ?_, ?_, ?_, ?_, ?_⟩ <;> simp [World.cell?, World.frozen?, h.z]
theorem StP.call (h : StP w W R A cp bs q B X Z vT vN vS vM vC g) (hR : R < w.heap.size) (k : Rd W W2 R A cp bs q2) : StP w W2 R A cp bs q2 B X Z vT vN vS vM vC g := by
  have h1 := h.bR
  have h2 := h.zR
  have h3 := h.bX
  have ne : ∀ j, X < j → ¬ j = R := fun j hj e => by omega
  exact ⟨h.rd.trans k, (k.kept.2 B (blk_lt h.b) (by omega)).trans h.b, (k.kept.2 X (blk_lt h.x) (by omega)).trans h.x, (k.kept.2 Z (blk_lt h.z) (by omega)).trans h.z, h1, h2, h3, h.zX, h.ne,
    Kd.R_kept h.rT k.kept ne, Kd.R_kept h.rN k.kept ne, Kd.R_kept h.rS k.kept ne, Kd.R_kept h.rM k.kept ne, Kd.R_kept h.rC k.kept ne⟩
theorem StP.drew (h : StP w W R A cp bs q B X Z vT vN vS vM vC g) : StP w W.drew R A cp bs q B X Z vT vN vS vM vC g :=
  ⟨h.rd.drew, h.b, h.x, h.z, h.bR, h.zR, h.bX, h.zX, h.ne, Kd.R_drew h.rT, Kd.R_drew h.rN, Kd.R_drew h.rS, Kd.R_drew h.rM, Kd.R_drew h.rC⟩
theorem StP.mine {α : Type} {d : Kd α} {e : Nat} {v : Value} {l : List α} (h : StP w W R A cp bs q B X Z vT vN vS vM vC g) (hv : d.R e W2 W.heap.size (fun _ => True) v l) : d.R e W2 w.heap.size (fun k => X < k) v l :=
  Kd.R_lower (Kd.R_mono (Kd.R_bound hv) (fun k hk => by have := hk.2.1; have := blk_lt h.x; omega)) h.rd.kept.1
theorem StP.store (h : StP w W R A cp bs q B X Z vT vN vS vM vC g) (hR : R < w.heap.size) (i : Nat) (v : Value) :
 Rd w (W.setCell ⟨X, i, none⟩ v) R A cp bs q ∧ (W.setCell ⟨X, i, none⟩ v).heap[B]? = some (.cells #[.pointer (some ⟨R, 0, none⟩)] 93 (0, 0)) ∧
 (W.setCell ⟨X, i, none⟩ v).heap[X]? = some (.cells (#[vT, vN, vS, vM, vC, .int .i64 g.dep, .int .i64 g.loc].setIfInBounds i v) 32 (0, 0)) ∧
 (W.setCell ⟨X, i, none⟩ v).heap[Z]? = some (.cells #[.slice none 0 0, .slice none 0 0, .slice none 0 0, .slice none 0 0, .slice none 0 0, .int .i64 0, .int .i64 0] 32 (0, 0)) := by
 have h1 := h.bR
 have h2 := h.zR
 have h3 := h.bX
 have h4 := h.zX
 refine ⟨⟨h.rd.below.setCell (by simp; omega) _, h.rd.kept.setCell (.inr (by simp; omega)) _, ?_, h.rd.row⟩, ?_, ?_, ?_⟩
 ·
  rw [Below.heap_setCell _ _ _ _ (by simp; omega)]; exact h.rd.blk
 ·
  rw [Below.heap_setCell _ _ _ _ (by simp; omega)]; exact h.b
 ·
  simp [World.setCell, h.x, Array.getElem?_modify]
 ·
  rw [Below.heap_setCell _ _ _ _ (by simp; omega)]; exact h.z
theorem far_ {α : Type} {d : Kd α} {e : Nat} {v u : Value} {l : List α} {i : Nat} (hv : d.R e W w.heap.size (fun k => X < k) v l) : d.R e (W.setCell ⟨X, i, none⟩ u) w.heap.size (fun k => X < k) v l := Kd.R_far hv (fun k hk => by simp; omega) u
theorem StP.put0 (h : StP w W R A cp bs q B X Z vT vN vS vM vC g) (hR : R < w.heap.size) {v : Value} {l : List ByteArray} (hv : Kd.string.R 9 W w.heap.size (fun k => X < k) v l) :
    StP w (W.setCell ⟨X, 0, none⟩ v) R A cp bs q B X Z v vN vS vM vC { g with T := l } := by
  obtain ⟨a, b, c, d⟩ := h.store hR 0 v
  exact ⟨a, b, c, d, h.bR, h.zR, h.bX, h.zX, h.ne, far_ hv, far_ h.rN, far_ h.rS, far_ h.rM, far_ h.rC⟩
theorem StP.put1 (h : StP w W R A cp bs q B X Z vT vN vS vM vC g) (hR : R < w.heap.size) {v : Value} {l : List Int} (hv : (Kd.int .i64).R 3 W w.heap.size (fun k => X < k) v l) :
    StP w (W.setCell ⟨X, 1, none⟩ v) R A cp bs q B X Z vT v vS vM vC { g with N := l } := by
  obtain ⟨a, b, c, d⟩ := h.store hR 1 v
  exact ⟨a, b, c, d, h.bR, h.zR, h.bX, h.zX, h.ne, far_ h.rT, far_ hv, far_ h.rS, far_ h.rM, far_ h.rC⟩
theorem StP.put2 (h : StP w W R A cp bs q B X Z vT vN vS vM vC g) (hR : R < w.heap.size) {v : Value} {l : List (List ByteArray)} (hv : (Kd.slice 9 Kd.string).R 26 W w.heap.size (fun k => X < k) v l) :
    StP w (W.setCell ⟨X, 2, none⟩ v) R A cp bs q B X Z vT vN v vM vC { g with S := l } := by
  obtain ⟨a, b, c, d⟩ := h.store hR 2 v
  exact ⟨a, b, c, d, h.bR, h.zR, h.bX, h.zX, h.ne, far_ h.rT, far_ h.rN, far_ hv, far_ h.rM, far_ h.rC⟩
theorem StP.put3 (h : StP w W R A cp bs q B X Z vT vN vS vM vC g) (hR : R < w.heap.size) {v : Value} {l : List (List Int)} (hv : (Kd.slice 3 (Kd.int .i64)).R 27 W w.heap.size (fun k => X < k) v l) :
    StP w (W.setCell ⟨X, 3, none⟩ v) R A cp bs q B X Z vT vN vS v vC { g with M := l } := by
  obtain ⟨a, b, c, d⟩ := h.store hR 3 v
  exact ⟨a, b, c, d, h.bR, h.zR, h.bX, h.zX, h.ne, far_ h.rT, far_ h.rN, far_ h.rS, far_ hv, far_ h.rC⟩
theorem StP.put5 (h : StP w W R A cp bs q B X Z vT vN vS vM vC g) (hR : R < w.heap.size) (n : Int) : StP w (W.setCell ⟨X, 5, none⟩ (.int .i64 n)) R A cp bs q B X Z vT vN vS vM vC { g with dep := n } := by
  obtain ⟨a, b, c, d⟩ := h.store hR 5 (.int .i64 n)
  exact ⟨a, b, c, d, h.bR, h.zR, h.bX, h.zX, h.ne, far_ h.rT, far_ h.rN, far_ h.rS, far_ h.rM, far_ h.rC⟩
theorem StP.put6 (h : StP w W R A cp bs q B X Z vT vN vS vM vC g) (hR : R < w.heap.size) (n : Int) : StP w (W.setCell ⟨X, 6, none⟩ (.int .i64 n)) R A cp bs q B X Z vT vN vS vM vC { g with loc := n } := by
  obtain ⟨a, b, c, d⟩ := h.store hR 6 (.int .i64 n)
  exact ⟨a, b, c, d, h.bR, h.zR, h.bX, h.zX, h.ne, far_ h.rT, far_ h.rN, far_ h.rS, far_ h.rM, far_ h.rC⟩
theorem StP.grown (h : StP w W R A cp bs q B X Z vT vN vS vM vC g) (hR : R < w.heap.size) (hg : W.grownBy W2 vC.ownBlock) {v2 : Value} {l2 : List S74} (hv : k74.R 74 W2 w.heap.size (fun k => X < k) v2 l2) :
 StP w (W2.setCell ⟨X, 4, none⟩ v2) R A cp bs q B X Z vT vN vS vM v2 { g with C := l2 } := by
 have h1 := h.bR
 have h2 := h.zR
 have h3 := h.bX
 have h4 := h.zX
 have hC : ∀ k, vC.ownBlock = some k → X < k := h.rC.1
 have hb : ∀ k o, k ≤ X → W.heap[k]? = some o → W2.heap[k]? = some o := fun k o hk ho => (hg.block k (blk_lt ho) (fun e => by have := hC k e.symm; omega)).trans ho
 have e : ∀ k, k ≠ X → (W2.setCell ⟨X, 4, none⟩ v2).heap[k]? = W2.heap[k]? := fun k hk => Below.heap_setCell _ _ _ _ (by simpa using hk)
 refine ⟨⟨(h.rd.below.grown hg (Nat.le_of_lt h.rd.lt) (fun k e => by have := hC k e; omega)).setCell (by simp; omega) _, (Kept.of_grown hg h.rd.kept (fun k e => .inr (by have := hC k e; omega))).setCell (.inr (by simp; omega)) _, ?_, h.rd.row⟩, ?_, ?_, ?_, h1, h2, h3, h4, h.ne, far_ (Kd.R_over h.rT h.rC (by decide) hg), far_ (Kd.R_over h.rN h.rC (by decide) hg), far_ (Kd.R_over h.rS h.rC (by decide) hg), far_ (Kd.R_over h.rM h.rC (by decide) hg), far_ hv⟩
 ·
  rw [e _ (by omega)]; exact hb _ _ (by omega) h.rd.blk
 ·
  rw [e _ (by omega)]; exact hb _ _ (by omega) h.b
 ·
  have := hb X _ (Nat.le_refl _) h.x
  simp [World.setCell, this, Array.getElem?_modify]
 ·
  rw [e _ (by omega)]; exact hb _ _ (by omega) h.z
end
end Go.Proofs.Ytlocnfkkfpfpfaa.D
