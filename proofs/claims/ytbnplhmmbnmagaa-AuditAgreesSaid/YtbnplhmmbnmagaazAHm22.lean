/- The reader's walks: program: what it computes, and the state between its steps. -/
import Derived.Test.YtbnplhmmbnmagaazAHm21
import Derived.Test.YtbnplhmmbnmagaazAHm20
import Derived.Test.YtbnplhmmbnmagaazAHm2
import Derived.Test.YtbnplhmmbnmagaazAHm4
import Derived.Test.YtbnplhmmbnmagaazAHm3
import Derived.Test.YtbnplhmmbnmagaazAHm5
import Derived.Test.YtbnplhmmbnmagaazAHm6
import Derived.Test.YtbnplhmmbnmagaazAHm7
import Derived.Test.YtbnplhmmbnmagaazAHm8
import Derived.Test.YtbnplhmmbnmagaazAHm9
import Derived.Test.YtbnplhmmbnmagaazAHm10
namespace Go.Proofs.Ytbnplhmmbnmagaa.D
open Go.RowKit Go.Proofs.YtbnplhmmbnmagaaW.PrintWords Go.Proofs.YtbnplhmmbnmagaaW.PrintLast Go.Proofs.YtbnplhmmbnmagaaW.PrintMore Go.Proofs.Ytbnplhmmbnmagaa.All
set_option linter.unusedSimpArgs false
set_option linter.unusedVariables false
structure Pg where
  T : List ByteArray
  N : List Int
  S : List (List ByteArray)
  M : List (List Int)
  C : List S66
  dep : Int
  loc : Int
def headB (i : Nat) : Int := if i = 0 then 66 else if i = 1 then 82 else if i = 2 then 84 else 1
def headL (bs : List Int) : Nat → Nat → Option (Int × Int)
  | 0, _ => none
  | d + 1, i => if bs.length ≤ i then some (201, bs.length) else if bs.getD i 0 ≠ headB i then some (200, i) else headL bs d (i + 1)
def codeL (bs : List Int) : Nat → Int → List S66 → Except (Int × Int) (List S66 × Int)
  | 0, q, acc => .ok (acc, q)
  | d + 1, q, acc => match instrF bs q with | .error f => .error f | .ok (x, q2) => codeL bs d q2 (acc ++ [x])
def pEnd (bs : List Int) (g : Pg) (q : Int) : Except (Int × Int) (Pg × Int) := if q < bs.length then .error (206, q) else .ok (g, q)
def pLoop (bs : List Int) (T : List ByteArray) (N : List Int) (S : List (List ByteArray)) (M : List (List Int)) (dep loc : Int) (d : Nat) (q : Int) (C : List S66) : Except (Int × Int) (Pg × Int) :=
  match codeL bs d q C with | .error f => .error f | .ok (C, q) => pEnd bs ⟨T, N, S, M, C, dep, loc⟩ q
def pCode (bs : List Int) (T : List ByteArray) (N : List Int) (S : List (List ByteArray)) (M : List (List Int)) (dep loc q : Int) : Except (Int × Int) (Pg × Int) :=
  match countF bs q 0 32768 with | .error f => .error f | .ok (n, q) => pLoop bs T N S M dep loc n.toNat q []
def pM (bs : List Int) (T : List ByteArray) (N : List Int) (S : List (List ByteArray)) (dep loc q : Int) : Except (Int × Int) (Pg × Int) :=
  match listF [] (numsF bs) (cmpL cmpI) bs q 0 (4096 - T.length - N.length - S.length) with | .error f => .error f | .ok (M, q) => pCode bs T N S M dep loc q
def pS (bs : List Int) (T : List ByteArray) (N : List Int) (dep loc q : Int) : Except (Int × Int) (Pg × Int) :=
  match listF [] (textsF bs) (cmpL cmpS) bs q 0 (4096 - T.length - N.length) with | .error f => .error f | .ok (S, q) => pM bs T N S dep loc q
def pN (bs : List Int) (T : List ByteArray) (dep loc q : Int) : Except (Int × Int) (Pg × Int) :=
  match listF 0 (numF bs) cmpI bs q 0 (4096 - T.length) with | .error f => .error f | .ok (N, q) => pS bs T N dep loc q
def pT (bs : List Int) (dep loc q : Int) : Except (Int × Int) (Pg × Int) :=
  match listF ByteArray.empty (textF bs) cmpS bs q 0 4096 with | .error f => .error f | .ok (T, q) => pN bs T dep loc q
def pLoc (bs : List Int) (dep q : Int) : Except (Int × Int) (Pg × Int) := match countF bs q 0 1024 with | .error f => .error f | .ok (loc, q) => pT bs dep loc q
def pDep (bs : List Int) (q : Int) : Except (Int × Int) (Pg × Int) := match countF bs q 0 128 with | .error f => .error f | .ok (dep, q) => pLoc bs dep q
def programF (bs : List Int) : Except (Int × Int) (Pg × Int) := match headL bs 4 0 with | some f => .error f | none => pDep bs 4
theorem instrF_ahead (bs : List Int) : Ahead bs (instrF bs) := by
 intro p x q hp h
 unfold instrF at h
 split at h
 ·
  simp at h
 split at h
 ·
  simp at h
 ·
  have g : ∀ b d q0 y q1, getN bs b d q0 = .ok (y, q1) → q0 ≤ q1 ∧ (q0 ≤ bs.length → q1 ≤ bs.length) := by
   intro b d q0 y q1 hg
   unfold getN at hg
   split at hg
   ·
    have := countF_ok hg
    omega
   ·
    simp only [Except.ok.injEq, Prod.mk.injEq] at hg
    omega
  simp only [instrL] at h
  split at h
  ·
   simp at h
  rename_i a1 q1 h1
  split at h
  ·
   simp at h
  rename_i a2 q2 h2
  split at h
  ·
   simp at h
  rename_i a3 q3 h3
  simp only [Except.ok.injEq, Prod.mk.injEq] at h
  have := g _ _ _ _ _ h1
  have := g _ _ _ _ _ h2
  have := g _ _ _ _ _ h3
  omega
structure StP (w W : World) (R : Nat) (A : Option Addr) (cp : Nat) (bs : List Int) (q : Int) (B X Z : Nat) (vT vN vS vM vC : Value) (g : Pg) : Prop where
  rd : Rd w W R A cp bs q
  b : W.heap[B]? = some (.cells #[.pointer (some ⟨R, 0, none⟩)] 123 (0, 0))
  x : W.heap[X]? = some (.cells #[vT, vN, vS, vM, vC, .int .i64 g.dep, .int .i64 g.loc] 28 (0, 0))
  z : W.heap[Z]? = some (.cells #[.slice none 0 0, .slice none 0 0, .slice none 0 0, .slice none 0 0, .slice none 0 0, .int .i64 0, .int .i64 0] 28 (0, 0))
  bR : w.heap.size ≤ B
  zR : w.heap.size ≤ Z
  bX : B < X
  zX : Z < X
  ne : B ≠ Z
  rT : Kd.string.R 9 W w.heap.size (fun k => X < k) vT g.T
  rN : (Kd.int .i64).R 3 W w.heap.size (fun k => X < k) vN g.N
  rS : (Kd.slice 9 Kd.string).R 22 W w.heap.size (fun k => X < k) vS g.S
  rM : (Kd.slice 3 (Kd.int .i64)).R 23 W w.heap.size (fun k => X < k) vM g.M
  rC : k66.R 66 W w.heap.size (fun k => X < k) vC g.C
section
variable {w W W2 : World} {R : Nat} {A : Option Addr} {cp : Nat} {bs : List Int} {q q2 : Int} {B X Z : Nat} {vT vN vS vM vC : Value} {g : Pg}
theorem StP.cells (h : StP w W R A cp bs q B X Z vT vN vS vM vC g) :
    W.cell? ⟨B, 0, none⟩ = some (.pointer (some ⟨R, 0, none⟩)) ∧
    W.cell? ⟨X, 0, none⟩ = some vT ∧ W.cell? ⟨X, 1, none⟩ = some vN ∧ W.cell? ⟨X, 2, none⟩ = some vS ∧ W.cell? ⟨X, 3, none⟩ = some vM ∧ W.cell? ⟨X, 4, none⟩ = some vC ∧ W.cell? ⟨X, 5, none⟩ = some (.int .i64 g.dep) ∧ W.cell? ⟨X, 6, none⟩ = some (.int .i64 g.loc) ∧
    W.frozen? ⟨X, 0, none⟩ = false ∧ W.frozen? ⟨X, 1, none⟩ = false ∧ W.frozen? ⟨X, 2, none⟩ = false ∧ W.frozen? ⟨X, 3, none⟩ = false ∧ W.frozen? ⟨X, 4, none⟩ = false ∧ W.frozen? ⟨X, 5, none⟩ = false ∧ W.frozen? ⟨X, 6, none⟩ = false := by
  refine ⟨?_, ?_, ?_, ?_, ?_, ?_, ?_, ?_, ?_, ?_, ?_, ?_, ?_, ?_, ?_⟩ <;> simp [World.cell?, World.frozen?, h.x, h.b]
theorem StP.zcells (h : StP w W R A cp bs q B X Z vT vN vS vM vC g) :
    W.cell? ⟨Z, 0, none⟩ = some (.slice none 0 0) ∧ W.cell? ⟨Z, 1, none⟩ = some (.slice none 0 0) ∧ W.cell? ⟨Z, 2, none⟩ = some (.slice none 0 0) ∧ W.cell? ⟨Z, 3, none⟩ = some (.slice none 0 0) ∧ W.cell? ⟨Z, 4, none⟩ = some (.slice none 0 0) ∧ W.cell? ⟨Z, 5, none⟩ = some (.int .i64 0) ∧ W.cell? ⟨Z, 6, none⟩ = some (.int .i64 0) ∧
    W.frozen? ⟨Z, 0, none⟩ = false ∧ W.frozen? ⟨Z, 1, none⟩ = false ∧ W.frozen? ⟨Z, 2, none⟩ = false ∧ W.frozen? ⟨Z, 3, none⟩ = false ∧ W.frozen? ⟨Z, 4, none⟩ = false ∧ W.frozen? ⟨Z, 5, none⟩ = false ∧ W.frozen? ⟨Z, 6, none⟩ = false := by
  refine ⟨?_, ?_, ?_, ?_, ?_, ?_, ?_, ?_, ?_, ?_, ?_, ?_, ?_, ?_⟩ <;> simp [World.cell?, World.frozen?, h.z]
theorem StP.call (h : StP w W R A cp bs q B X Z vT vN vS vM vC g) (hR : R < w.heap.size) (k : Rd W W2 R A cp bs q2) : StP w W2 R A cp bs q2 B X Z vT vN vS vM vC g := by
  have h1 := h.bR
  have h2 := h.zR
  have h3 := h.bX
  have ne : ∀ j, X < j → ¬ j = R := fun j hj e => by omega
  exact ⟨h.rd.trans k, (k.kept.2 B (blk_lt h.b) (by omega)).trans h.b, (k.kept.2 X (blk_lt h.x) (by omega)).trans h.x, (k.kept.2 Z (blk_lt h.z) (by omega)).trans h.z, h1, h2, h3, h.zX, h.ne,
    Kd.R_kept h.rT k.kept ne, Kd.R_kept h.rN k.kept ne, Kd.R_kept h.rS k.kept ne, Kd.R_kept h.rM k.kept ne, Kd.R_kept h.rC k.kept ne⟩
theorem StP.drew (h : StP w W R A cp bs q B X Z vT vN vS vM vC g) : StP w W.drew R A cp bs q B X Z vT vN vS vM vC g :=
  ⟨h.rd.drew, h.b, h.x, h.z, h.bR, h.zR, h.bX, h.zX, h.ne, Kd.R_drew h.rT, Kd.R_drew h.rN, Kd.R_drew h.rS, Kd.R_drew h.rM, Kd.R_drew h.rC⟩
theorem StP.mine {α : Type} {d : Kd α} {e : Nat} {v : Value} {l : List α} (h : StP w W R A cp bs q B X Z vT vN vS vM vC g) (hv : d.R e W2 W.heap.size (fun _ => True) v l) : d.R e W2 w.heap.size (fun k => X < k) v l :=
  Kd.R_lower (Kd.R_mono (Kd.R_bound hv) (fun k hk => by have := hk.2.1; have := blk_lt h.x; omega)) h.rd.kept.1
theorem StP.store (h : StP w W R A cp bs q B X Z vT vN vS vM vC g) (hR : R < w.heap.size) (i : Nat) (v : Value) :
 Rd w (W.setCell ⟨X, i, none⟩ v) R A cp bs q ∧ (W.setCell ⟨X, i, none⟩ v).heap[B]? = some (.cells #[.pointer (some ⟨R, 0, none⟩)] 123 (0, 0)) ∧
 (W.setCell ⟨X, i, none⟩ v).heap[X]? = some (.cells (#[vT, vN, vS, vM, vC, .int .i64 g.dep, .int .i64 g.loc].setIfInBounds i v) 28 (0, 0)) ∧
 (W.setCell ⟨X, i, none⟩ v).heap[Z]? = some (.cells #[.slice none 0 0, .slice none 0 0, .slice none 0 0, .slice none 0 0, .slice none 0 0, .int .i64 0, .int .i64 0] 28 (0, 0)) := by
 have h1 := h.bR
 have h2 := h.zR
 have h3 := h.bX
 have h4 := h.zX
 refine ⟨⟨h.rd.below.setCell (by simp; omega) _, h.rd.kept.setCell (.inr (by simp; omega)) _, ?_, h.rd.row⟩, ?_, ?_, ?_⟩
 ·
  rw [Below.heap_setCell _ _ _ _ (by simp; omega)]; exact h.rd.blk
 ·
  rw [Below.heap_setCell _ _ _ _ (by simp; omega)]; exact h.b
 ·
  simp [World.setCell, h.x, Array.getElem?_modify]
 ·
  rw [Below.heap_setCell _ _ _ _ (by simp; omega)]; exact h.z
theorem far_ {α : Type} {d : Kd α} {e : Nat} {v u : Value} {l : List α} {i : Nat} (hv : d.R e W w.heap.size (fun k => X < k) v l) : d.R e (W.setCell ⟨X, i, none⟩ u) w.heap.size (fun k => X < k) v l := Kd.R_far hv (fun k hk => by simp; omega) u
theorem StP.put0 (h : StP w W R A cp bs q B X Z vT vN vS vM vC g) (hR : R < w.heap.size) {v : Value} {l : List ByteArray} (hv : Kd.string.R 9 W w.heap.size (fun k => X < k) v l) :
    StP w (W.setCell ⟨X, 0, none⟩ v) R A cp bs q B X Z v vN vS vM vC { g with T := l } := by
  obtain ⟨a, b, c, d⟩ := h.store hR 0 v
  exact ⟨a, b, c, d, h.bR, h.zR, h.bX, h.zX, h.ne, far_ hv, far_ h.rN, far_ h.rS, far_ h.rM, far_ h.rC⟩
theorem StP.put1 (h : StP w W R A cp bs q B X Z vT vN vS vM vC g) (hR : R < w.heap.size) {v : Value} {l : List Int} (hv : (Kd.int .i64).R 3 W w.heap.size (fun k => X < k) v l) :
    StP w (W.setCell ⟨X, 1, none⟩ v) R A cp bs q B X Z vT v vS vM vC { g with N := l } := by
  obtain ⟨a, b, c, d⟩ := h.store hR 1 v
  exact ⟨a, b, c, d, h.bR, h.zR, h.bX, h.zX, h.ne, far_ h.rT, far_ hv, far_ h.rS, far_ h.rM, far_ h.rC⟩
theorem StP.put2 (h : StP w W R A cp bs q B X Z vT vN vS vM vC g) (hR : R < w.heap.size) {v : Value} {l : List (List ByteArray)} (hv : (Kd.slice 9 Kd.string).R 22 W w.heap.size (fun k => X < k) v l) :
    StP w (W.setCell ⟨X, 2, none⟩ v) R A cp bs q B X Z vT vN v vM vC { g with S := l } := by
  obtain ⟨a, b, c, d⟩ := h.store hR 2 v
  exact ⟨a, b, c, d, h.bR, h.zR, h.bX, h.zX, h.ne, far_ h.rT, far_ h.rN, far_ hv, far_ h.rM, far_ h.rC⟩
theorem StP.put3 (h : StP w W R A cp bs q B X Z vT vN vS vM vC g) (hR : R < w.heap.size) {v : Value} {l : List (List Int)} (hv : (Kd.slice 3 (Kd.int .i64)).R 23 W w.heap.size (fun k => X < k) v l) :
    StP w (W.setCell ⟨X, 3, none⟩ v) R A cp bs q B X Z vT vN vS v vC { g with M := l } := by
  obtain ⟨a, b, c, d⟩ := h.store hR 3 v
  exact ⟨a, b, c, d, h.bR, h.zR, h.bX, h.zX, h.ne, far_ h.rT, far_ h.rN, far_ h.rS, far_ hv, far_ h.rC⟩
theorem StP.put5 (h : StP w W R A cp bs q B X Z vT vN vS vM vC g) (hR : R < w.heap.size) (n : Int) : StP w (W.setCell ⟨X, 5, none⟩ (.int .i64 n)) R A cp bs q B X Z vT vN vS vM vC { g with dep := n } := by
  obtain ⟨a, b, c, d⟩ := h.store hR 5 (.int .i64 n)
  exact ⟨a, b, c, d, h.bR, h.zR, h.bX, h.zX, h.ne, far_ h.rT, far_ h.rN, far_ h.rS, far_ h.rM, far_ h.rC⟩
theorem StP.put6 (h : StP w W R A cp bs q B X Z vT vN vS vM vC g) (hR : R < w.heap.size) (n : Int) : StP w (W.setCell ⟨X, 6, none⟩ (.int .i64 n)) R A cp bs q B X Z vT vN vS vM vC { g with loc := n } := by
  obtain ⟨a, b, c, d⟩ := h.store hR 6 (.int .i64 n)
  exact ⟨a, b, c, d, h.bR, h.zR, h.bX, h.zX, h.ne, far_ h.rT, far_ h.rN, far_ h.rS, far_ h.rM, far_ h.rC⟩
theorem StP.grown (h : StP w W R A cp bs q B X Z vT vN vS vM vC g) (hR : R < w.heap.size) (hg : W.grownBy W2 vC.ownBlock) {v2 : Value} {l2 : List S66} (hv : k66.R 66 W2 w.heap.size (fun k => X < k) v2 l2) :
 StP w (W2.setCell ⟨X, 4, none⟩ v2) R A cp bs q B X Z vT vN vS vM v2 { g with C := l2 } := by
 have h1 := h.bR
 have h2 := h.zR
 have h3 := h.bX
 have h4 := h.zX
 have hC : ∀ k, vC.ownBlock = some k → X < k := h.rC.1
 have hb : ∀ k o, k ≤ X → W.heap[k]? = some o → W2.heap[k]? = some o := fun k o hk ho => (hg.block k (blk_lt ho) (fun e => by have := hC k e.symm; omega)).trans ho
 have e : ∀ k, k ≠ X → (W2.setCell ⟨X, 4, none⟩ v2).heap[k]? = W2.heap[k]? := fun k hk => Below.heap_setCell _ _ _ _ (by simpa using hk)
 refine ⟨⟨(h.rd.below.grown hg (Nat.le_of_lt h.rd.lt) (fun k e => by have := hC k e; omega)).setCell (by simp; omega) _, (Kept.of_grown hg h.rd.kept (fun k e => .inr (by have := hC k e; omega))).setCell (.inr (by simp; omega)) _, ?_, h.rd.row⟩, ?_, ?_, ?_, h1, h2, h3, h4, h.ne, far_ (Kd.R_over h.rT h.rC (by decide) hg), far_ (Kd.R_over h.rN h.rC (by decide) hg), far_ (Kd.R_over h.rS h.rC (by decide) hg), far_ (Kd.R_over h.rM h.rC (by decide) hg), far_ hv⟩
 ·
  rw [e _ (by omega)]; exact hb _ _ (by omega) h.rd.blk
 ·
  rw [e _ (by omega)]; exact hb _ _ (by omega) h.b
 ·
  have := hb X _ (Nat.le_refl _) h.x
  simp [World.setCell, this, Array.getElem?_modify]
 ·
  rw [e _ (by omega)]; exact hb _ _ (by omega) h.z
end
end Go.Proofs.Ytbnplhmmbnmagaa.D
namespace Go.Proofs.Ytbnplhmmbnmagaa.D
open Go.RowKit Go.Proofs.YtbnplhmmbnmagaaW.PrintWords Go.Proofs.YtbnplhmmbnmagaaW.PrintLast Go.Proofs.YtbnplhmmbnmagaaW.PrintMore Go.Proofs.Ytbnplhmmbnmagaa.All
set_option linter.unusedSimpArgs false
set_option linter.unusedVariables false
def opOK (b : Bool) (n : Int) : Bool := if b = true then decide (0 ≤ n ∧ n ≤ 65535) else decide (n = 0)
def instrOK (x : S66) : Bool := decide (1 ≤ x.f0 ∧ x.f0 ≤ 36) && (opOK (usesV x.f0).1 x.f1 && (opOK (usesV x.f0).2.1 x.f2 && opOK (usesV x.f0).2.2 x.f3))
def formedB (g : Pg) : Bool := decide (g.T.length + g.N.length + g.S.length + g.M.length ≤ 4096) && (decide (g.C.length ≤ 32768) && (decide (0 ≤ g.dep ∧ g.dep ≤ 128 ∧ 0 ≤ g.loc ∧ g.loc ≤ 1024) && (risesB cmpS okS none g.T && (risesB cmpI okI none g.N && (risesB (cmpL cmpS) okSS none g.S && (risesB (cmpL cmpI) okII none g.M && g.C.all instrOK))))))
structure InPg (w : World) (A0 A1 A2 A3 A4 : Option Addr) (c0 c1 c2 c3 c4 : Nat) (g : Pg) : Prop where
  T : Kd.string.C w A0 g.T.length g.T
  N : (Kd.int .i64).C w A1 g.N.length g.N
  S : (Kd.slice 9 Kd.string).C w A2 g.S.length g.S
  M : (Kd.slice 3 (Kd.int .i64)).C w A3 g.M.length g.M
  C : k66.C w A4 g.C.length g.C
  lT : g.T.length ≤ c0
  lN : g.N.length ≤ c1
  lS : g.S.length ≤ c2
  lM : g.M.length ≤ c3
  lC : g.C.length ≤ c4
structure Fits (g : Pg) : Prop where
  T : g.T.length ≤ 140737488351232
  N : g.N.length ≤ 140737488351232
  S : g.S.length ≤ 140737488351232
  M : g.M.length ≤ 140737488351232
  C : g.C.length ≤ 140737488351232
  SS : ∀ x ∈ g.S, x.length ≤ 140737488351232
  MM : ∀ x ∈ g.M, x.length ≤ 140737488351232
theorem InPg.below {w W : World} {A0 A1 A2 A3 A4 : Option Addr} {c0 c1 c2 c3 c4 : Nat} {g : Pg} (h : InPg w A0 A1 A2 A3 A4 c0 c1 c2 c3 c4 g) (hb : Below w.heap.size w W) : InPg W A0 A1 A2 A3 A4 c0 c1 c2 c3 c4 g :=
  ⟨Kd.C_below h.T hb, Kd.C_below h.N hb, Kd.C_below h.S hb, Kd.C_below h.M hb, Kd.C_below h.C hb, h.lT, h.lN, h.lS, h.lM, h.lC⟩
def valPg (A0 A1 A2 A3 A4 : Option Addr) (c0 c1 c2 c3 c4 : Nat) (g : Pg) : Value :=
  .agg #[.slice A0 g.T.length c0, .slice A1 g.N.length c1, .slice A2 g.S.length c2, .slice A3 g.M.length c3, .slice A4 g.C.length c4, .int .i64 g.dep, .int .i64 g.loc]
section
variable {w : World} {A0 A1 A2 A3 A4 : Option Addr} {c0 c1 c2 c3 c4 : Nat} {g : Pg}
theorem r53 (h : InPg w A0 A1 A2 A3 A4 c0 c1 c2 c3 c4 g) : Calls Try.prog 70 #[.slice A0 g.T.length c0, .func (.func 71) #[] #[], .func (.func 72) #[] #[]] w fun e w' => e = .returned (.bool (risesB cmpS okS none g.T)) ∧ Drawn0 w w' :=
  code_rises_string_70.calls (g.T.length + 1) A0 c0 g.T _ w h.T h.lT (rises53_l g.T h.T.2.1 (g.T.length + 1) 0 (by omega) (by omega))
theorem r57 (h : InPg w A0 A1 A2 A3 A4 c0 c1 c2 c3 c4 g) : Calls Try.prog 74 #[.slice A1 g.N.length c1, .func (.func 75) #[] #[], .func (.func 76) #[] #[]] w fun e w' => e = .returned (.bool (risesB cmpI okI none g.N)) ∧ Drawn0 w w' :=
  code_rises_int_74.calls (g.N.length + 1) A1 c1 g.N _ w h.N h.lN (rises57_l g.N h.N.2.1 (g.N.length + 1) 0 (by omega) (by omega))
theorem r60 (h : InPg w A0 A1 A2 A3 A4 c0 c1 c2 c3 c4 g) (f : Fits g) : Calls Try.prog 77 #[.slice A2 g.S.length c2, .func (.func 78) #[] #[], .func (.func 69) #[] #[]] w fun e w' => e = .returned (.bool (risesB (cmpL cmpS) okSS none g.S)) ∧ Drawn0 w w' :=
  code_rises_string_77.calls (g.S.length + 140737488351233 + 1) A2 c2 g.S _ w h.S h.lS (rises60_l g.S h.S.2.1 140737488351233 (by omega) (fun x hx => by have := f.SS x hx; omega) _ 0 (by omega) (by omega))
theorem r62 (h : InPg w A0 A1 A2 A3 A4 c0 c1 c2 c3 c4 g) (f : Fits g) : Calls Try.prog 79 #[.slice A3 g.M.length c3, .func (.func 80) #[] #[], .func (.func 73) #[] #[]] w fun e w' => e = .returned (.bool (risesB (cmpL cmpI) okII none g.M)) ∧ Drawn0 w w' :=
  code_rises_int_79.calls (g.M.length + 140737488351233 + 1) A3 c3 g.M _ w h.M h.lM (rises62_l g.M h.M.2.1 140737488351233 (by omega) (fun x hx => by have := f.MM x hx; omega) _ 0 (by omega) (by omega))
end
section
variable (x y z : Int) (w : World)
theorem jnf3a : (Try.prog.info? 3).map (fun i => i.size) = some 1 := by kernel_rfl
theorem jnf3 : ∃ i, Try.prog.info? 3 = some i ∧ i.size = 1 := Option.map_eq_some_iff.1 jnf3a
theorem jx77_0 : (Instr.index 121 (.agg #[.int .i64 x, .int .i64 y, .int .i64 z]) (.int .i64 0)).run Try.prog w = .ok (.int .i64 x) w := by
  obtain ⟨i, h1, h2⟩ := jnf3
  simp [Instr.index, run_underlying Try.underlying121, asIntOf, part, sizeOf, typeInfo, h1, h2, isAgg, run_underlying Try.underlying3, go_sem]
theorem jx77_1 : (Instr.index 121 (.agg #[.int .i64 x, .int .i64 y, .int .i64 z]) (.int .i64 1)).run Try.prog w = .ok (.int .i64 y) w := by
  obtain ⟨i, h1, h2⟩ := jnf3
  simp [Instr.index, run_underlying Try.underlying121, asIntOf, part, sizeOf, typeInfo, h1, h2, isAgg, run_underlying Try.underlying3, go_sem]
theorem jx77_2 : (Instr.index 121 (.agg #[.int .i64 x, .int .i64 y, .int .i64 z]) (.int .i64 2)).run Try.prog w = .ok (.int .i64 z) w := by
  obtain ⟨i, h1, h2⟩ := jnf3
  simp [Instr.index, run_underlying Try.underlying121, asIntOf, part, sizeOf, typeInfo, h1, h2, isAgg, run_underlying Try.underlying3, go_sem]
end
attribute [local go_sem] jx77_0 jx77_1 jx77_2
theorem boxed {W : World} {B : Nat} {a b c d e f g : Value} (h : W.heap[B]? = some (.cells #[a, b, c, d, e, f, g] 28 (0, 0))) : W.cell? ⟨B, 0, none⟩ = some a ∧ W.cell? ⟨B, 1, none⟩ = some b ∧ W.cell? ⟨B, 2, none⟩ = some c ∧ W.cell? ⟨B, 3, none⟩ = some d ∧ W.cell? ⟨B, 4, none⟩ = some e ∧ W.cell? ⟨B, 5, none⟩ = some f ∧ W.cell? ⟨B, 6, none⟩ = some g := by
  refine ⟨?_, ?_, ?_, ?_, ?_, ?_, ?_⟩ <;> simp [World.cell?, h]
theorem xboxed {wr w3 : World} {a b c d : Value} (h : Below (wr.alloc (.cells #[a, b, c, d] 66)).heap.size (wr.alloc (.cells #[a, b, c, d] 66)) w3) (o : Obj) :
    (w3.alloc o).cell? ⟨wr.heap.size, 1, none⟩ = some b ∧ (w3.alloc o).cell? ⟨wr.heap.size, 2, none⟩ = some c ∧ (w3.alloc o).cell? ⟨wr.heap.size, 3, none⟩ = some d := by
  have hx : w3.heap[wr.heap.size]? = some (.cells #[a, b, c, d] 66 (0, 0)) := (h.block _ (by simp)).trans (heap_alloc_new _ _)
  have hy : (w3.alloc o).heap[wr.heap.size]? = some (.cells #[a, b, c, d] 66 (0, 0)) := (heap_alloc_old _ _ (blk_lt hx)).trans hx
  refine ⟨?_, ?_, ?_⟩ <;> simp [World.cell?, hy]
def okFrom (u : Bool × Bool × Bool) (n1 n2 n3 : Int) : Nat → Bool
  | 0 => opOK u.1 n1 && (opOK u.2.1 n2 && opOK u.2.2 n3)
  | 1 => opOK u.2.1 n2 && opOK u.2.2 n3
  | 2 => opOK u.2.2 n3
  | _ => true
set_option maxHeartbeats 4000000 in
set_option maxRecDepth 100000 in
theorem formed_any (w : World) (A0 A1 A2 A3 A4 : Option Addr) (c0 c1 c2 c3 c4 : Nat) (g : Pg) (h : InPg w A0 A1 A2 A3 A4 c0 c1 c2 c3 c4 g) (f : Fits g) :
 Calls Try.prog 39 #[valPg A0 A1 A2 A3 A4 c0 c1 c2 c3 c4 g] w fun e w' => e = .returned (.bool (formedB g)) ∧ Below w.heap.size w w' := by
 have f0 := f
 obtain ⟨fT, fN, fS, fM, fC, SS_, MM_⟩ := f
 unfold valPg
 generalize hFB : formedB g = FB
 have HFB := hid_ hFB; clear hFB
 have hW1 := h.below (below_alloc (Below.refl w.heap.size w) (.cells #[.slice A0 g.T.length c0, .slice A1 g.N.length c1, .slice A2 g.S.length c2, .slice A3 g.M.length c3, .slice A4 g.C.length c4, .int .i64 g.dep, .int .i64 g.loc] 28))
 by_cases h1 : ¬ ((g.T.length : Int) + g.N.length + g.S.length + g.M.length ≤ 4096)
 ·
  have e : FB = false := by rw [← HFB.out]; unfold formedB; rw [decide_eq_false (by omega), Bool.false_and]
  subst e
  go_enter Try.func39, Try.ntmps39
  go_wp2_with (fail)
  go_ret
  exact ⟨rfl, by go_grown⟩
 replace h1 := Classical.not_not.1 h1
 by_cases h2 : ¬ ((g.C.length : Int) ≤ 32768)
 ·
  have e : FB = false := by rw [← HFB.out]; unfold formedB; rw [decide_eq_false (p := g.C.length ≤ 32768) (by omega), Bool.false_and, Bool.and_false]
  subst e
  go_enter Try.func39, Try.ntmps39
  go_wp2_with (fail)
  go_ret
  exact ⟨rfl, by go_grown⟩
 replace h2 := Classical.not_not.1 h2
 by_cases h3 : ¬ (0 ≤ g.dep ∧ g.dep ≤ 128 ∧ 0 ≤ g.loc ∧ g.loc ≤ 1024)
 ·
  have e : FB = false := by rw [← HFB.out]; unfold formedB; rw [decide_eq_false h3, Bool.false_and, Bool.and_false, Bool.and_false]
  subst e
  clear HFB
  go_enter Try.func39, Try.ntmps39
  go_wp2_with (fail)
  all_goals (go_ret; exact ⟨rfl, by go_grown⟩)
 obtain ⟨h3a, h3b, h3c, h3d⟩ := Classical.not_not.1 h3
 have HFB2 : Hid ((risesB cmpS okS none g.T && (risesB cmpI okI none g.N && (risesB (cmpL cmpS) okSS none g.S && (risesB (cmpL cmpI) okII none g.M && g.C.all instrOK)))) = FB) := by
  have := HFB.out
  unfold formedB at this
  rw [decide_eq_true (by omega), decide_eq_true (p := g.C.length ≤ 32768) (by omega), decide_eq_true ⟨h3a, h3b, h3c, h3d⟩, Bool.true_and, Bool.true_and, Bool.true_and] at this
  exact this
 clear HFB h SS_ MM_
 go_enter Try.func39, Try.ntmps39
 go_wp2_with (fail)
 have bel1 := below_alloc (Below.refl w.heap.size w) (.cells #[.slice A0 g.T.length c0, .slice A1 g.N.length c1, .slice A2 g.S.length c2, .slice A3 g.M.length c3, .slice A4 g.C.length c4, .int .i64 g.dep, .int .i64 g.loc] 28)
 have hB1 := heap_alloc_new w (.cells #[.slice A0 g.T.length c0, .slice A1 g.N.length c1, .slice A2 g.S.length c2, .slice A3 g.M.length c3, .slice A4 g.C.length c4, .int .i64 g.dep, .int .i64 g.loc] 28)
 generalize w.alloc (.cells #[.slice A0 g.T.length c0, .slice A1 g.N.length c1, .slice A2 g.S.length c2, .slice A3 g.M.length c3, .slice A4 g.C.length c4, .int .i64 g.dep, .int .i64 g.loc] 28) = W1 at hW1 bel1 hB1 ⊢
 have HRT := r53 hW1
 cases hT : risesB cmpS okS none g.T with
 | false =>
  rw [hT] at HRT
  have e : FB = false := by rw [← HFB2.out, hT]; rfl
  subst e
  clear hT HFB2
  refine HRT.mono ?_
  rintro e W ⟨rfl, hd⟩
  go_wp2_with (fail)
  go_ret
  exact ⟨rfl, bel1.trans (hd.below.mono bel1.size)⟩
 | true =>
  rw [hT] at HRT
  have HFB3 : Hid ((risesB cmpI okI none g.N && (risesB (cmpL cmpS) okSS none g.S && (risesB (cmpL cmpI) okII none g.M && g.C.all instrOK))) = FB) := by
   have := HFB2.out
   rw [hT, Bool.true_and] at this
   exact this
  clear hT HFB2
  refine HRT.mono ?_
  rintro e W2 ⟨rfl, hd⟩
  have hW2 := hW1.below hd.below
  have bel2 := bel1.trans (hd.below.mono bel1.size)
  have hB2 := (hd.below.block _ (blk_lt hB1)).trans hB1
  clear HRT hW1 hd bel1 hB1
  obtain ⟨q0, q1, q2, q3, q4, q5, q6⟩ := boxed hB2
  go_wp2_with (fail)
  clear q0 q1 q2 q3 q4 q5 q6
  have HRN := r57 hW2
  cases hN : risesB cmpI okI none g.N with
  | false =>
   rw [hN] at HRN
   have e : FB = false := by rw [← HFB3.out, hN]; rfl
   subst e
   clear hN HFB3
   refine HRN.mono ?_
   rintro e W ⟨rfl, hd⟩
   go_wp2_with (fail)
   go_ret
   exact ⟨rfl, bel2.trans (hd.below.mono bel2.size)⟩
  | true =>
   rw [hN] at HRN
   have HFB4 : Hid ((risesB (cmpL cmpS) okSS none g.S && (risesB (cmpL cmpI) okII none g.M && g.C.all instrOK)) = FB) := by
    have := HFB3.out
    rw [hN, Bool.true_and] at this
    exact this
   clear hN HFB3
   refine HRN.mono ?_
   rintro e W3 ⟨rfl, hd⟩
   have hW3 := hW2.below hd.below
   have bel3 := bel2.trans (hd.below.mono bel2.size)
   have hB3 := (hd.below.block _ (blk_lt hB2)).trans hB2
   clear HRN hW2 hd bel2 hB2
   obtain ⟨q0, q1, q2, q3, q4, q5, q6⟩ := boxed hB3
   go_wp2_with (fail)
   clear q0 q1 q2 q3 q4 q5 q6
   have HRS := r60 hW3 f0
   cases hS : risesB (cmpL cmpS) okSS none g.S with
   | false =>
    rw [hS] at HRS
    have e : FB = false := by rw [← HFB4.out, hS]; rfl
    subst e
    clear hS HFB4
    refine HRS.mono ?_
    rintro e W ⟨rfl, hd⟩
    go_wp2_with (fail)
    go_ret
    exact ⟨rfl, bel3.trans (hd.below.mono bel3.size)⟩
   | true =>
    rw [hS] at HRS
    have HFB5 : Hid ((risesB (cmpL cmpI) okII none g.M && g.C.all instrOK) = FB) := by
     have := HFB4.out
     rw [hS, Bool.true_and] at this
     exact this
    clear hS HFB4
    refine HRS.mono ?_
    rintro e W4 ⟨rfl, hd⟩
    have hW4 := hW3.below hd.below
    have bel4 := bel3.trans (hd.below.mono bel3.size)
    have hB4 := (hd.below.block _ (blk_lt hB3)).trans hB3
    clear HRS hW3 hd bel3 hB3
    obtain ⟨q0, q1, q2, q3, q4, q5, q6⟩ := boxed hB4
    go_wp2_with (fail)
    clear q0 q1 q2 q3 q4 q5 q6
    have HRM := r62 hW4 f0
    cases hM : risesB (cmpL cmpI) okII none g.M with
    | false =>
     rw [hM] at HRM
     have e : FB = false := by rw [← HFB5.out, hM]; rfl
     subst e
     clear hM HFB5
     refine HRM.mono ?_
     rintro e W ⟨rfl, hd⟩
     go_wp2_with (fail)
     go_ret
     exact ⟨rfl, bel4.trans (hd.below.mono bel4.size)⟩
    | true =>
     rw [hM] at HRM
     have HFB6 : Hid (g.C.all instrOK = FB) := by
      have := HFB5.out
      rw [hM, Bool.true_and] at this
      exact this
     clear hM HFB5
     refine HRM.mono ?_
     rintro e W5 ⟨rfl, hd⟩
     have hW5 := hW4.below hd.below
     have bel5 := bel4.trans (hd.below.mono bel4.size)
     have hB5 := (hd.below.block _ (blk_lt hB4)).trans hB4
     clear HRM hW4 hd bel4 hB4
     obtain ⟨q0, q1, q2, q3, q4, q5, q6⟩ := boxed hB5
     go_wp2_with (fail)
     clear q0 q1 q2 q3 q4 q5 q6
     clear f0 fT fN fS fM hB5
     go_loopw [77] (fun i wr => ∃ k : Nat, k ≤ g.C.length ∧ i = .int .i64 k ∧ Below w.heap.size w wr ∧ k66.C wr A4 g.C.length g.C ∧ (g.C.drop k).all instrOK = FB) (fun i _ => g.C.length - (intOf i).toNat)
     case atStart => exact ⟨0, by omega, rfl, bel5, hW5.C, by rw [List.drop_zero]; exact HFB6.out⟩
     case round =>
      clear hW5 bel5 HFB6
      obtain ⟨k, hk, rfl, bel, hC, he⟩ := hrel
      have HE := hid_ he; clear he
      by_cases hlt : k < g.C.length
      ·
       obtain ⟨ad, rfl, a0, a1, a2, a3⟩ := at_T66 hC (k : Int) (by omega) (by omega)
       rw [Int.toNat_natCast] at a0 a1 a2 a3
       have hx : rd_T66 g.C (k : Int) = g.C[k] := by simp [rd_T66, hlt]
       rw [hx] at a0 a1 a2 a3
       have he := HE.out
       rw [List.drop_eq_getElem_cons hlt, List.all_cons] at he
       clear HE hx
       generalize hR : (g.C.drop (k + 1)).all instrOK = R at he
       have HR := hid_ hR; clear hR
       generalize g.C[k] = x at a0 a1 a2 a3 he
       obtain ⟨op, n1, n2, n3⟩ := x
       unfold instrOK at he
       dsimp only at a0 a1 a2 a3 he
       by_cases hop : ¬ (1 ≤ op ∧ op ≤ 36)
       ·
        have e : FB = false := by rw [← he, decide_eq_false hop]; rfl
        subst e
        clear he
        have hop2 : op < 1 ∨ 36 < op := by omega
        rcases hop2 with hop2 | hop2
        ·
         go_wp2_with (fail)
         go_ret
         exact ⟨rfl, by first | exact below_alloc bel _ | exact below_alloc bel _⟩
        ·
         have hop3 : ¬ op < 1 := by omega
         go_wp2_with (fail)
         go_ret
         exact ⟨rfl, below_alloc bel _⟩
       ·
        replace hop := Classical.not_not.1 hop
        rw [decide_eq_true hop, Bool.true_and] at he
        obtain ⟨hop1, hop2⟩ := hop
        generalize hu : usesV op = u at he
        have uw : ∀ W, Calls Try.prog 51 #[.int .i64 op] W fun re w' => re = .returned (.agg #[.bool u.1, .bool u.2.1, .bool u.2.2]) ∧ Below W.heap.size W w' := fun W => by
         have := uses.walk op W
         rw [hu] at this
         exact this
        clear hu
        have HE := hid_ he; clear he
        go_wp2_with ((with_reducible refine (uw _).mono ?_); rintro e w3 ⟨rfl, bel3⟩; obtain ⟨s1, s2, s3⟩ := xboxed bel3 (.cells #[.bool u.1, .bool u.2.1, .bool u.2.2] 119))
        have bel4 : Below w.heap.size w (w3.alloc (.cells #[.bool u.1, .bool u.2.1, .bool u.2.2] 119)) := below_alloc ((below_alloc bel _).trans (bel3.mono (below_alloc bel _).size)) _
        have hC4 := Kd.C_alloc (Kd.C_below (Kd.C_alloc hC (.cells #[.int .i64 op, .int .i64 n1, .int .i64 n2, .int .i64 n3] 66)) bel3) (.cells #[.bool u.1, .bool u.2.1, .bool u.2.2] 119)
        have hU := heap_alloc_new w3 (.cells #[.bool u.1, .bool u.2.1, .bool u.2.2] 119)
        obtain ⟨b1, b2, b3⟩ := u
        dsimp only at bel4 hC4 hU HE s1 s2 s3 ⊢
        generalize w3.alloc (.cells #[.bool b1, .bool b2, .bool b3] 119) = w4 at bel4 hC4 hU s1 s2 s3 ⊢
        generalize w3.heap.size = U at hU ⊢
        have e0 : w4.cell? ⟨U, 0, none⟩ = some (.bool b1) := by simp [World.cell?, hU]
        have e1 : w4.cell? ⟨U, 1, none⟩ = some (.bool b2) := by simp [World.cell?, hU]
        have e2 : w4.cell? ⟨U, 2, none⟩ = some (.bool b3) := by simp [World.cell?, hU]
        clear s1 s2 s3 a0 a1 a2 a3 hC bel bel3 uw hU hop1 hop2
        have HE2 : Hid ((okFrom (b1, b2, b3) n1 n2 n3 0 && R) = FB) := HE
        clear HE
        go_loop [99] (fun i => ∃ j : Nat, j ≤ 3 ∧ i = .int .i64 j ∧ (okFrom (b1, b2, b3) n1 n2 n3 j && R) = FB) (fun i => 3 - (intOf i).toNat)
        case atStart => exact ⟨0, by omega, rfl, HE2.out⟩
        case round =>
         clear HE2
         obtain ⟨j, hj, rfl, he⟩ := hrel
         have HE := hid_ he; clear he
         have hj' : j = 0 ∨ j = 1 ∨ j = 2 ∨ j = 3 := by omega
         rcases hj' with rfl | rfl | rfl | rfl
         ·
          have HEo : Hid ((opOK b1 n1 && okFrom (b1, b2, b3) n1 n2 n3 1 && R) = FB) := by
           have := HE.out
           have e : okFrom (b1, b2, b3) n1 n2 n3 0 = (opOK b1 n1 && okFrom (b1, b2, b3) n1 n2 n3 1) := by rfl
           rw [e] at this
           exact this
          clear HE
          by_cases hok : opOK b1 n1 = true
          ·
           have HE3 : Hid ((okFrom (b1, b2, b3) n1 n2 n3 1 && R) = FB) := by
            have := HEo.out
            rw [hok, Bool.true_and] at this
            exact this
           clear HEo
           unfold opOK at hok
           cases b1
           ·
            have hz : n1 = 0 := by simpa using hok
            clear hok
            subst hz
            go_wp2_with (fail)
            go_round
            case rel => exact ⟨1, by omega, rfl, HE3.out⟩
            case measure => simp [intOf]
           ·
            have hz : 0 ≤ n1 ∧ n1 ≤ 65535 := by simpa using hok
            clear hok
            obtain ⟨hz1, hz2⟩ := hz
            go_wp2_with (fail)
            go_round
            case rel => exact ⟨1, by omega, rfl, HE3.out⟩
            case measure => simp [intOf]
          ·
           have e : FB = false := by
            rw [← HEo.out, eq_false_of_ne_true hok]; rfl
           subst e
           clear HEo
           unfold opOK at hok
           cases b1
           ·
            have hz : ¬ n1 = 0 := by simpa using hok
            clear hok
            go_wp2_with (fail)
            go_ret
            exact ⟨rfl, bel4⟩
           ·
            have hz : n1 < 0 ∨ 65535 < n1 := by
             have : ¬ (0 ≤ n1 ∧ n1 ≤ 65535) := by simpa using hok
             omega
            clear hok
            rcases hz with hz | hz
            ·
             go_wp2_with (fail)
             go_ret
             exact ⟨rfl, bel4⟩
            ·
             have hz2 : 0 ≤ n1 := by omega
             go_wp2_with (fail)
             go_ret
             exact ⟨rfl, bel4⟩
         ·
          have HEo : Hid ((opOK b2 n2 && okFrom (b1, b2, b3) n1 n2 n3 2 && R) = FB) := by
           have := HE.out
           have e : okFrom (b1, b2, b3) n1 n2 n3 1 = (opOK b2 n2 && okFrom (b1, b2, b3) n1 n2 n3 2) := by rfl
           rw [e] at this
           exact this
          clear HE
          by_cases hok : opOK b2 n2 = true
          ·
           have HE3 : Hid ((okFrom (b1, b2, b3) n1 n2 n3 2 && R) = FB) := by
            have := HEo.out
            rw [hok, Bool.true_and] at this
            exact this
           clear HEo
           unfold opOK at hok
           cases b2
           ·
            have hz : n2 = 0 := by simpa using hok
            clear hok
            subst hz
            go_wp2_with (fail)
            go_round
            case rel => exact ⟨2, by omega, rfl, HE3.out⟩
            case measure => simp [intOf]
           ·
            have hz : 0 ≤ n2 ∧ n2 ≤ 65535 := by simpa using hok
            clear hok
            obtain ⟨hz1, hz2⟩ := hz
            go_wp2_with (fail)
            go_round
            case rel => exact ⟨2, by omega, rfl, HE3.out⟩
            case measure => simp [intOf]
          ·
           have e : FB = false := by
            rw [← HEo.out, eq_false_of_ne_true hok]; rfl
           subst e
           clear HEo
           unfold opOK at hok
           cases b2
           ·
            have hz : ¬ n2 = 0 := by simpa using hok
            clear hok
            go_wp2_with (fail)
            go_ret
            exact ⟨rfl, bel4⟩
           ·
            have hz : n2 < 0 ∨ 65535 < n2 := by
             have : ¬ (0 ≤ n2 ∧ n2 ≤ 65535) := by simpa using hok
             omega
            clear hok
            rcases hz with hz | hz
            ·
             go_wp2_with (fail)
             go_ret
             exact ⟨rfl, bel4⟩
            ·
             have hz2 : 0 ≤ n2 := by omega
             go_wp2_with (fail)
             go_ret
             exact ⟨rfl, bel4⟩
         ·
          have HEo : Hid ((opOK b3 n3 && okFrom (b1, b2, b3) n1 n2 n3 3 && R) = FB) := by
           have := HE.out
           have e : okFrom (b1, b2, b3) n1 n2 n3 2 = (opOK b3 n3 && okFrom (b1, b2, b3) n1 n2 n3 3) := by simp [okFrom]
           rw [e] at this
           exact this
          clear HE
          by_cases hok : opOK b3 n3 = true
          ·
           have HE3 : Hid ((okFrom (b1, b2, b3) n1 n2 n3 3 && R) = FB) := by
            have := HEo.out
            rw [hok, Bool.true_and] at this
            exact this
           clear HEo
           unfold opOK at hok
           cases b3
           ·
            have hz : n3 = 0 := by simpa using hok
            clear hok
            subst hz
            go_wp2_with (fail)
            go_round
            case rel => exact ⟨3, by omega, rfl, HE3.out⟩
            case measure => simp [intOf]
           ·
            have hz : 0 ≤ n3 ∧ n3 ≤ 65535 := by simpa using hok
            clear hok
            obtain ⟨hz1, hz2⟩ := hz
            go_wp2_with (fail)
            go_round
            case rel => exact ⟨3, by omega, rfl, HE3.out⟩
            case measure => simp [intOf]
          ·
           have e : FB = false := by
            rw [← HEo.out, eq_false_of_ne_true hok]; rfl
           subst e
           clear HEo
           unfold opOK at hok
           cases b3
           ·
            have hz : ¬ n3 = 0 := by simpa using hok
            clear hok
            go_wp2_with (fail)
            go_ret
            exact ⟨rfl, bel4⟩
           ·
            have hz : n3 < 0 ∨ 65535 < n3 := by
             have : ¬ (0 ≤ n3 ∧ n3 ≤ 65535) := by simpa using hok
             omega
            clear hok
            rcases hz with hz | hz
            ·
             go_wp2_with (fail)
             go_ret
             exact ⟨rfl, bel4⟩
            ·
             have hz2 : 0 ≤ n3 := by omega
             go_wp2_with (fail)
             go_ret
             exact ⟨rfl, bel4⟩
         ·
          have HE3 : Hid (R = FB) := by
           have := HE.out
           have e : okFrom (b1, b2, b3) n1 n2 n3 3 = true := rfl
           rw [e, Bool.true_and] at this
           exact this
          clear HE
          go_wp2_with (fail)
          go_roundw
          case rel => exact ⟨k + 1, by omega, by go_num, bel4, hC4, by rw [HR.out]; exact HE3.out⟩
          case measure => simp [intOf]; omega
      ·
       have e : g.C.drop k = [] := List.drop_eq_nil_of_le (by omega)
       have he : true = FB := by rw [← HE.out, e]; rfl
       subst he
       clear HE e
       go_wp2_with (fail)
       go_ret
       exact ⟨rfl, bel⟩
end Go.Proofs.Ytbnplhmmbnmagaa.D
namespace Go.Proofs.Ytbnplhmmbnmagaa.D
open Go.RowKit Go.Proofs.YtbnplhmmbnmagaaW.PrintWords Go.Proofs.YtbnplhmmbnmagaaW.PrintLast Go.Proofs.YtbnplhmmbnmagaaW.PrintMore Go.Proofs.Ytbnplhmmbnmagaa.All
set_option linter.unusedSimpArgs false
set_option linter.unusedVariables false
def cntF : Nat → Int → List Int
  | 0, n => [n % 256]
  | f + 1, n => if 128 ≤ n then (n % 128 + 128) :: cntF f (n / 128) else [n % 256]
def encCount (n : Int) : List Int := cntF 9 n
def encText (s : ByteArray) : List Int := encCount s.size ++ bytesOf s
def encNum (n : Int) : List Int := encCount (if n < 0 then -2 * n - 1 else 2 * n)
def encList {α : Type} (put : α → List Int) (l : List α) : List Int := encCount l.length ++ (l.map put).flatten
def encInstr (x : S66) : List Int := [x.f0 % 256] ++ (if (usesV x.f0).1 = true then encCount x.f1 else []) ++ (if (usesV x.f0).2.1 = true then encCount x.f2 else []) ++ (if (usesV x.f0).2.2 = true then encCount x.f3 else [])
def encP (g : Pg) : List Int := [66, 82, 84, 1] ++ encCount g.dep ++ encCount g.loc ++ encList encText g.T ++ encList encNum g.N ++ encList (encList encText) g.S ++ encList (encList encNum) g.M ++ encList encInstr g.C
theorem cntF_len : ∀ f n, (cntF f n).length ≤ f + 1
  | 0, n => by simp [cntF]
  | f + 1, n => by
    unfold cntF
    split
    · have := cntF_len f (n / 128)
      simp only [List.length_cons]
      omega
    · simp
theorem encCount_len (n : Int) : (encCount n).length ≤ 10 := cntF_len 9 n
set_option maxRecDepth 10000 in
theorem or128 (n : Int) (h : 0 ≤ n) : Go.bits .or .u8 (n % 256) 128 = n % 128 + 128 := by
  rw [u8_or (n % 256) 128 (by omega) (by omega) (by omega) (by omega)]
  have hd : ∀ y : _root_.Fin 256, (y.val ||| 128) = y.val % 128 + 128 := by decide
  have h2 := hd ⟨(n % 256).toNat, by omega⟩
  have h3 : ((n % 256).toNat ||| (128 : Int).toNat) = (n % 256).toNat % 128 + 128 := h2
  rw [h3]
  omega
theorem putCount_l : ∀ (f k : Nat) (l : List Int) (n : Int), 0 ≤ n → n < 128 ^ (f + 1) → f < k → l.length + f + 1 ≤ 140737488355328 → code_putCount.l0 k l n = some (l ++ cntF f n)
 | 0, k, l, n, h0, h1, hk, hl => by
  obtain ⟨k, rfl⟩ : ∃ m, k = m + 1 := ⟨k - 1, by omega⟩
  unfold code_putCount.l0 cntF
  have : n < 128 := h1
  rw [if_neg (by omega), if_pos (by omega)]
 | f + 1, k, l, n, h0, h1, hk, hl => by
  obtain ⟨k, rfl⟩ : ∃ m, k = m + 1 := ⟨k - 1, by omega⟩
  unfold code_putCount.l0 cntF
  by_cases h : 128 ≤ n
  ·
   rw [if_pos (by omega), if_pos (by omega), if_pos h, or128 n h0]
   have h3 : n / 128 < 128 ^ (f + 1) := by
    rw [Int.pow_succ] at h1
    exact Int.ediv_lt_of_lt_mul (by omega) h1
   rw [putCount_l f k _ (n / 128) (by omega) h3 (by omega) (by simp only [List.length_append, List.length_cons, List.length_nil]; omega)]
   simp
  ·
   rw [if_neg (by omega), if_pos (by omega), if_neg h]
theorem putCount_f (k : Nat) (l : List Int) (n : Int) (h0 : 0 ≤ n) (h1 : n ≤ 18446744073709551615) (hk : 10 ≤ k) (hl : l.length + 10 ≤ 140737488355328) : code_putCount.f k l n = some (l ++ encCount n) := by
  unfold code_putCount.f encCount
  exact putCount_l 9 k l n h0 (by have : (128 : Int) ^ 10 = 1180591620717411303424 := by decide
                                  omega) (by omega) (by omega)
theorem putText_f (k : Nat) (l : List Int) (s : ByteArray) (hs : s.size ≤ 127) (hk : 10 ≤ k) (hl : l.length + 138 ≤ 140737488355328) : code_putText.f k l s = some (l ++ encText s) := by
  unfold code_putText.f encText
  have hw : IntKind.u64.wrap ((s.size : Int)) = s.size := IntWalk.u64_in _ ⟨by omega, by omega⟩
  have hc := encCount_len s.size
  rw [hw, putCount_f k l _ (by omega) (by omega) hk (by omega), Option.bind_some, if_pos (by simp only [List.length_append]; omega), List.append_assoc]
theorem putNum_f (k : Nat) (l : List Int) (n : Int) (h1 : -1000000000000000000 ≤ n) (h2 : n ≤ 1000000000000000000) (hk : 10 ≤ k) (hl : l.length + 10 ≤ 140737488355328) : code_putNum.f k l n = some (l ++ encNum n) := by
 unfold code_putNum.f encNum
 by_cases h : n < 0
 ·
  rw [if_pos h, if_pos h, wrap_ (-2 * n) (by omega) (by omega), wrap_ (-2 * n - 1) (by omega) (by omega), IntWalk.u64_in _ ⟨by omega, by omega⟩, putCount_f k l _ (by omega) (by omega) hk hl]
  rfl
 ·
  rw [if_neg h, if_neg h, wrap_ (2 * n) (by omega) (by omega), IntWalk.u64_in _ ⟨by omega, by omega⟩, putCount_f k l _ (by omega) (by omega) hk hl]
  rfl
theorem encList_len {α : Type} (put : α → List Int) (B : Nat) (l : List α) (h : ∀ x ∈ l, (put x).length ≤ B) : (encList put l).length ≤ 10 + l.length * B := by
  unfold encList
  have h0 := encCount_len l.length
  have : ((l.map put).flatten).length ≤ l.length * B := by
    clear h0
    induction l with
    | nil => simp
    | cons a l ih =>
      have h1 := ih (fun x hx => h x (List.mem_cons_of_mem _ hx))
      have h2 := h a List.mem_cons_self
      simp only [List.map_cons, List.flatten_cons, List.length_append, List.length_cons, Nat.add_mul, Nat.one_mul]
      omega
  rw [List.length_append]
  omega
theorem encText_len (s : ByteArray) (h : s.size ≤ 127) : (encText s).length ≤ 137 := by
  unfold encText
  have := encCount_len s.size
  rw [List.length_append, bytesOf_length]
  omega
theorem code_putList_string_41_l (l : List ByteArray) (hl : l.length ≤ 140737488351232) (hc : ∀ s ∈ l, s.size ≤ 127) : ∀ (k i : Nat) (x : List Int), l.length - i + 11 < k → i ≤ l.length → x.length + (l.length - i) * 138 ≤ 140737488355000 → code_putList_string_41.l0 k x l (l.length : Int) i = some (x ++ ((l.drop i).map encText).flatten)
 | 0, i, x, h, _, _ => by omega
 | k + 1, i, x, hk, hi, hb => by
  unfold code_putList_string_41.l0
  by_cases hlt : i < l.length
  ·
   have e0 : rdOf ByteArray.empty l (i : Int) = l[i] := by simp [rdOf, hlt]
   have ew : wrap64 ((i : Int) + 1) = ((i + 1 : Nat) : Int) := by rw [wrap_ _ (by omega) (by omega)]; omega
   have hmem : l[i] ∈ l := List.getElem_mem hlt
   have hd : (l.length - i) * 138 = 138 + (l.length - (i + 1)) * 138 := by
    rw [show l.length - i = (l.length - (i + 1)) + 1 by omega, Nat.add_mul, Nat.one_mul, Nat.add_comm]
   have hs := hc _ hmem
   have hel : (encText l[i]).length ≤ 137 := by
    unfold encText
    have := encCount_len l[i].size
    rw [List.length_append, bytesOf_length]
    omega
   have hput := putText_f k x l[i] hs (by omega) (by omega)
   rw [if_pos (by omega), if_pos (by omega), if_pos (by omega), e0, hput, Option.bind_some, ew, code_putList_string_41_l l hl hc k (i + 1) _ (by omega) (by omega) (by rw [List.length_append]; omega), List.drop_eq_getElem_cons hlt, List.map_cons, List.flatten_cons, List.append_assoc]
  ·
   rw [if_neg (by omega), List.drop_eq_nil_of_le (by omega)]
   simp
theorem code_putList_string_41_f' (l : List ByteArray) (hl : l.length ≤ 140737488351232) (hc : ∀ s ∈ l, s.size ≤ 127) (k : Nat) (x : List Int) (hk : l.length + 11 < k) (hk2 : 10 ≤ k) (hb : x.length + 10 + l.length * 138 ≤ 140737488355000) : code_putList_string_41.f k x l = some (x ++ encList encText l) := by
  have hc0 := encCount_len l.length
  have hL := code_putList_string_41_l l hl hc k 0 (x ++ encCount l.length) (by omega) (by omega) (by rw [List.length_append, Nat.sub_zero]; omega)
  rw [List.drop_zero] at hL
  unfold code_putList_string_41.f encList
  rw [IntWalk.u64_in _ ⟨by omega, by omega⟩, putCount_f k x _ (by omega) (by omega) hk2 (by omega), Option.bind_some, ← List.append_assoc]
  exact hL
theorem code_putList_int_43_l (l : List Int) (hl : l.length ≤ 140737488351232) (hc : ∀ n ∈ l, -1000000000000000000 ≤ n ∧ n ≤ 1000000000000000000) : ∀ (k i : Nat) (x : List Int), l.length - i + 11 < k → i ≤ l.length → x.length + (l.length - i) * 11 ≤ 140737488355000 → code_putList_int_43.l0 k x l (l.length : Int) i = some (x ++ ((l.drop i).map encNum).flatten)
 | 0, i, x, h, _, _ => by omega
 | k + 1, i, x, hk, hi, hb => by
  unfold code_putList_int_43.l0
  by_cases hlt : i < l.length
  ·
   have e0 : rd l (i : Int) = l[i] := by simp [rd, hlt]
   have ew : wrap64 ((i : Int) + 1) = ((i + 1 : Nat) : Int) := by rw [wrap_ _ (by omega) (by omega)]; omega
   have hmem : l[i] ∈ l := List.getElem_mem hlt
   have hd : (l.length - i) * 11 = 11 + (l.length - (i + 1)) * 11 := by
    rw [show l.length - i = (l.length - (i + 1)) + 1 by omega, Nat.add_mul, Nat.one_mul, Nat.add_comm]
   have hs := hc _ hmem
   have hel : (encNum l[i]).length ≤ 10 := encCount_len _
   have hput := putNum_f k x l[i] hs.1 hs.2 (by omega) (by omega)
   rw [if_pos (by omega), if_pos (by omega), if_pos (by omega), e0, hput, Option.bind_some, ew, code_putList_int_43_l l hl hc k (i + 1) _ (by omega) (by omega) (by rw [List.length_append]; omega), List.drop_eq_getElem_cons hlt, List.map_cons, List.flatten_cons, List.append_assoc]
  ·
   rw [if_neg (by omega), List.drop_eq_nil_of_le (by omega)]
   simp
theorem code_putList_int_43_f' (l : List Int) (hl : l.length ≤ 140737488351232) (hc : ∀ n ∈ l, -1000000000000000000 ≤ n ∧ n ≤ 1000000000000000000) (k : Nat) (x : List Int) (hk : l.length + 11 < k) (hk2 : 10 ≤ k) (hb : x.length + 10 + l.length * 11 ≤ 140737488355000) : code_putList_int_43.f k x l = some (x ++ encList encNum l) := by
  have hc0 := encCount_len l.length
  have hL := code_putList_int_43_l l hl hc k 0 (x ++ encCount l.length) (by omega) (by omega) (by rw [List.length_append, Nat.sub_zero]; omega)
  rw [List.drop_zero] at hL
  unfold code_putList_int_43.f encList
  rw [IntWalk.u64_in _ ⟨by omega, by omega⟩, putCount_f k x _ (by omega) (by omega) hk2 (by omega), Option.bind_some, ← List.append_assoc]
  exact hL
theorem code_putList_string_45_l (l : List (List ByteArray)) (hl : l.length ≤ 140737488351232) (hc : ∀ y ∈ l, y.length ≤ 1000 ∧ ∀ s ∈ y, s.size ≤ 127) : ∀ (k i : Nat) (x : List Int), l.length - i + 1020 < k → i ≤ l.length → x.length + (l.length - i) * 140000 ≤ 140737488355000 → code_putList_string_45.l0 k x l (l.length : Int) i = some (x ++ ((l.drop i).map (encList encText)).flatten)
 | 0, i, x, h, _, _ => by omega
 | k + 1, i, x, hk, hi, hb => by
  unfold code_putList_string_45.l0
  by_cases hlt : i < l.length
  ·
   have e0 : rd_L3 l (i : Int) = l[i] := by simp [rd_L3, hlt]
   have ew : wrap64 ((i : Int) + 1) = ((i + 1 : Nat) : Int) := by rw [wrap_ _ (by omega) (by omega)]; omega
   have hmem : l[i] ∈ l := List.getElem_mem hlt
   have hd : (l.length - i) * 140000 = 140000 + (l.length - (i + 1)) * 140000 := by
    rw [show l.length - i = (l.length - (i + 1)) + 1 by omega, Nat.add_mul, Nat.one_mul, Nat.add_comm]
   obtain ⟨hs1, hs2⟩ := hc _ hmem
   have hel : (encList encText l[i]).length ≤ 10 + l[i].length * 137 := encList_len encText 137 l[i] (fun s hs => encText_len s (hs2 s hs))
   have hput : code_Encode_1.f k x l[i] = some (x ++ encList encText l[i]) := by
    unfold code_Encode_1.f
    rw [code_putList_string_41_f' l[i] (by omega) hs2 k x (by omega) (by omega) (by omega)]
    rfl
   rw [if_pos (by omega), if_pos (by omega), if_pos (by omega), e0, hput, Option.bind_some, ew, code_putList_string_45_l l hl hc k (i + 1) _ (by omega) (by omega) (by rw [List.length_append]; omega), List.drop_eq_getElem_cons hlt, List.map_cons, List.flatten_cons, List.append_assoc]
  ·
   rw [if_neg (by omega), List.drop_eq_nil_of_le (by omega)]
   simp
theorem code_putList_string_45_f' (l : List (List ByteArray)) (hl : l.length ≤ 140737488351232) (hc : ∀ y ∈ l, y.length ≤ 1000 ∧ ∀ s ∈ y, s.size ≤ 127) (k : Nat) (x : List Int) (hk : l.length + 1020 < k) (hk2 : 10 ≤ k) (hb : x.length + 10 + l.length * 140000 ≤ 140737488355000) : code_putList_string_45.f k x l = some (x ++ encList (encList encText) l) := by
  have hc0 := encCount_len l.length
  have hL := code_putList_string_45_l l hl hc k 0 (x ++ encCount l.length) (by omega) (by omega) (by rw [List.length_append, Nat.sub_zero]; omega)
  rw [List.drop_zero] at hL
  unfold code_putList_string_45.f encList
  rw [IntWalk.u64_in _ ⟨by omega, by omega⟩, putCount_f k x _ (by omega) (by omega) hk2 (by omega), Option.bind_some, ← List.append_assoc]
  exact hL
theorem code_putList_int_47_l (l : List (List Int)) (hl : l.length ≤ 140737488351232) (hc : ∀ y ∈ l, y.length ≤ 1000 ∧ ∀ n ∈ y, -1000000000000000000 ≤ n ∧ n ≤ 1000000000000000000) : ∀ (k i : Nat) (x : List Int), l.length - i + 1020 < k → i ≤ l.length → x.length + (l.length - i) * 140000 ≤ 140737488355000 → code_putList_int_47.l0 k x l (l.length : Int) i = some (x ++ ((l.drop i).map (encList encNum)).flatten)
 | 0, i, x, h, _, _ => by omega
 | k + 1, i, x, hk, hi, hb => by
  unfold code_putList_int_47.l0
  by_cases hlt : i < l.length
  ·
   have e0 : rd_L4 l (i : Int) = l[i] := by simp [rd_L4, hlt]
   have ew : wrap64 ((i : Int) + 1) = ((i + 1 : Nat) : Int) := by rw [wrap_ _ (by omega) (by omega)]; omega
   have hmem : l[i] ∈ l := List.getElem_mem hlt
   have hd : (l.length - i) * 140000 = 140000 + (l.length - (i + 1)) * 140000 := by
    rw [show l.length - i = (l.length - (i + 1)) + 1 by omega, Nat.add_mul, Nat.one_mul, Nat.add_comm]
   obtain ⟨hs1, hs2⟩ := hc _ hmem
   have hel : (encList encNum l[i]).length ≤ 10 + l[i].length * 10 := encList_len encNum 10 l[i] (fun n _ => encCount_len _)
   have hput : code_Encode_2.f k x l[i] = some (x ++ encList encNum l[i]) := by
    unfold code_Encode_2.f
    rw [code_putList_int_43_f' l[i] (by omega) hs2 k x (by omega) (by omega) (by omega)]
    rfl
   rw [if_pos (by omega), if_pos (by omega), if_pos (by omega), e0, hput, Option.bind_some, ew, code_putList_int_47_l l hl hc k (i + 1) _ (by omega) (by omega) (by rw [List.length_append]; omega), List.drop_eq_getElem_cons hlt, List.map_cons, List.flatten_cons, List.append_assoc]
  ·
   rw [if_neg (by omega), List.drop_eq_nil_of_le (by omega)]
   simp
theorem code_putList_int_47_f' (l : List (List Int)) (hl : l.length ≤ 140737488351232) (hc : ∀ y ∈ l, y.length ≤ 1000 ∧ ∀ n ∈ y, -1000000000000000000 ≤ n ∧ n ≤ 1000000000000000000) (k : Nat) (x : List Int) (hk : l.length + 1020 < k) (hk2 : 10 ≤ k) (hb : x.length + 10 + l.length * 140000 ≤ 140737488355000) : code_putList_int_47.f k x l = some (x ++ encList (encList encNum) l) := by
  have hc0 := encCount_len l.length
  have hL := code_putList_int_47_l l hl hc k 0 (x ++ encCount l.length) (by omega) (by omega) (by rw [List.length_append, Nat.sub_zero]; omega)
  rw [List.drop_zero] at hL
  unfold code_putList_int_47.f encList
  rw [IntWalk.u64_in _ ⟨by omega, by omega⟩, putCount_f k x _ (by omega) (by omega) hk2 (by omega), Option.bind_some, ← List.append_assoc]
  exact hL
theorem stepV_f (k : Nat) (b : Bool) (l : List Int) (n : Int) (h0 : 0 ≤ n) (h1 : n ≤ 65535) (hk : 10 ≤ k) (hl : l.length + 10 ≤ 140737488355328) : stepV k b l n = some (l ++ if b = true then encCount n else []) := by
 unfold stepV
 by_cases hb : b = true
 ·
  rw [if_pos hb, if_pos hb, IntWalk.u64_in _ ⟨by omega, by omega⟩, putCount_f k l n h0 (by omega) hk hl]
 ·
  rw [if_neg hb, if_neg hb, List.append_nil]
theorem encInstr_len (x : S66) : (encInstr x).length ≤ 31 := by
  unfold encInstr
  have h1 := encCount_len x.f1
  have h2 := encCount_len x.f2
  have h3 := encCount_len x.f3
  simp only [List.length_append, List.length_cons, List.length_nil]
  split <;> split <;> split <;> (try simp only [List.length_nil]) <;> omega
theorem encode3_f (k : Nat) (l : List Int) (x : S66) (h1 : 0 ≤ x.f1 ∧ x.f1 ≤ 65535) (h2 : 0 ≤ x.f2 ∧ x.f2 ≤ 65535) (h3 : 0 ≤ x.f3 ∧ x.f3 ≤ 65535) (hk : 10 ≤ k) (hl : l.length + 40 ≤ 140737488355328) : code_Encode_3.f k l x.f0 x.f1 x.f2 x.f3 = some (l ++ encInstr x) := by
 unfold code_Encode_3.f encInstr
 have c1 := encCount_len x.f1
 have c2 := encCount_len x.f2
 have e1 : ∀ (b : Bool) (n : Int), (if b = true then encCount n else []).length ≤ 10 := fun b n => by
  have := encCount_len n
  split
  ·
   exact this
  ·
   simp
 have a1 := e1 (usesV x.f0).1 x.f1
 have a2 := e1 (usesV x.f0).2.1 x.f2
 rw [if_pos (by omega), stepV_f k _ _ _ h1.1 h1.2 hk (by simp only [List.length_append, List.length_cons, List.length_nil]; omega), Option.bind_some, stepV_f k _ _ _ h2.1 h2.2 hk (by simp only [List.length_append, List.length_cons, List.length_nil]; omega), Option.bind_some, stepV_f k _ _ _ h3.1 h3.2 hk (by simp only [List.length_append, List.length_cons, List.length_nil]; omega)]
 simp only [List.append_assoc]
theorem api_Instr_49_l (l : List S66) (hl : l.length ≤ 140737488351232) (hc : ∀ x ∈ l, (0 ≤ x.f1 ∧ x.f1 ≤ 65535) ∧ (0 ≤ x.f2 ∧ x.f2 ≤ 65535) ∧ (0 ≤ x.f3 ∧ x.f3 ≤ 65535)) : ∀ (k i : Nat) (x : List Int), l.length - i + 11 < k → i ≤ l.length → x.length + (l.length - i) * 41 ≤ 140737488355000 → api_Instr_49.l0 k x l (l.length : Int) i = some (x ++ ((l.drop i).map encInstr).flatten)
 | 0, i, x, h, _, _ => by omega
 | k + 1, i, x, hk, hi, hb => by
  unfold api_Instr_49.l0
  by_cases hlt : i < l.length
  ·
   have e0 : rd_T66 l (i : Int) = l[i] := by simp [rd_T66, hlt]
   have ew : wrap64 ((i : Int) + 1) = ((i + 1 : Nat) : Int) := by rw [wrap_ _ (by omega) (by omega)]; omega
   have hmem : l[i] ∈ l := List.getElem_mem hlt
   have hd : (l.length - i) * 41 = 41 + (l.length - (i + 1)) * 41 := by
    rw [show l.length - i = (l.length - (i + 1)) + 1 by omega, Nat.add_mul, Nat.one_mul, Nat.add_comm]
   obtain ⟨hs1, hs2, hs3⟩ := hc _ hmem
   have hel := encInstr_len l[i]
   have hput := encode3_f k x l[i] hs1 hs2 hs3 (by omega) (by omega)
   rw [if_pos (by omega), if_pos (by omega), if_pos (by omega), e0, hput, Option.bind_some, ew, api_Instr_49_l l hl hc k (i + 1) _ (by omega) (by omega) (by rw [List.length_append]; omega), List.drop_eq_getElem_cons hlt, List.map_cons, List.flatten_cons, List.append_assoc]
  ·
   rw [if_neg (by omega), List.drop_eq_nil_of_le (by omega)]
   simp
theorem api_Instr_49_f' (l : List S66) (hl : l.length ≤ 140737488351232) (hc : ∀ x ∈ l, (0 ≤ x.f1 ∧ x.f1 ≤ 65535) ∧ (0 ≤ x.f2 ∧ x.f2 ≤ 65535) ∧ (0 ≤ x.f3 ∧ x.f3 ≤ 65535)) (k : Nat) (x : List Int) (hk : l.length + 11 < k) (hk2 : 10 ≤ k) (hb : x.length + 10 + l.length * 41 ≤ 140737488355000) : api_Instr_49.f k x l = some (x ++ encList encInstr l) := by
  have hc0 := encCount_len l.length
  have hL := api_Instr_49_l l hl hc k 0 (x ++ encCount l.length) (by omega) (by omega) (by rw [List.length_append, Nat.sub_zero]; omega)
  rw [List.drop_zero] at hL
  unfold api_Instr_49.f encList
  rw [IntWalk.u64_in _ ⟨by omega, by omega⟩, putCount_f k x _ (by omega) (by omega) hk2 (by omega), Option.bind_some, ← List.append_assoc]
  exact hL
end Go.Proofs.Ytbnplhmmbnmagaa.D
