/- The reader's walks: program: what it computes, and the state between its steps. -/
import Derived.Test.YtbnplhmmbnmagaazAYm19
import Derived.Test.YtbnplhmmbnmagaazAYm18
import Derived.Test.YtbnplhmmbnmagaazAYm2
import Derived.Test.YtbnplhmmbnmagaazAYm4
import Derived.Test.YtbnplhmmbnmagaazAYm3
import Derived.Test.YtbnplhmmbnmagaazAYm5
import Derived.Test.YtbnplhmmbnmagaazAYm6
import Derived.Test.YtbnplhmmbnmagaazAYm7
import Derived.Test.YtbnplhmmbnmagaazAYm8
set_option linter.unusedVariables false
set_option linter.unusedSimpArgs false
namespace Go.Proofs.Ytbnplhmmbnmagaa.D
open Go.RowKit Go.Proofs.YtbnplhmmbnmagaaW.PrintWords Go.Proofs.YtbnplhmmbnmagaaW.PrintLast Go.Proofs.YtbnplhmmbnmagaaW.PrintMore Go.Proofs.Ytbnplhmmbnmagaa.All
structure Pg where
  T:List ByteArray
  N:List Int
  S:List (List ByteArray)
  M:List (List Int)
  C:List S66
  dep:Int
  loc:Int
def eZe (i:Nat):Int:=if i=0 then 66 else if i=1 then 82 else if i=2 then 84 else 1
def bZ2 (bs:List Int):Nat→Nat→Option (Int × Int)
  | 0,_=>none
  | d+1,i=>if bs.length≤i then some (201,bs.length) else if bs.getD i 0≠eZe i then some (200,i) else bZ2 bs d (i+1)
def cZj (bs:List Int):Nat→Int→List S66→Except (Int × Int) (List S66 × Int)
  | 0,q,acc=>.ok (acc,q)
  | d+1,q,acc=>match aZ9 bs q with | .error f=>.error f | .ok (x,q2)=>cZj bs d q2 (acc++[x])
def pEnd (bs:List Int) (g:Pg) (q:Int):Except (Int × Int) (Pg × Int):=if q<bs.length then .error (206,q) else .ok (g,q)
def dZe (bs:List Int) (T:List ByteArray) (N:List Int) (S:List (List ByteArray)) (M:List (List Int)) (dep loc:Int) (d:Nat) (q:Int) (C:List S66):Except (Int × Int) (Pg × Int) :=
  match cZj bs d q C with | .error f=>.error f | .ok (C,q)=>pEnd bs ⟨T,N,S,M,C,dep,loc⟩ q
def dZN (bs:List Int) (T:List ByteArray) (N:List Int) (S:List (List ByteArray)) (M:List (List Int)) (dep loc q:Int):Except (Int × Int) (Pg × Int) :=
  match aZm bs q 0 32768 with | .error f=>.error f | .ok (n,q)=>dZe bs T N S M dep loc n.toNat q []
def pM (bs:List Int) (T:List ByteArray) (N:List Int) (S:List (List ByteArray)) (dep loc q:Int):Except (Int × Int) (Pg × Int) :=
  match aZO [] (bZr bs) (cmpL cmpI) bs q 0 (4096 - T.length - N.length - S.length) with | .error f=>.error f | .ok (M,q)=>dZN bs T N S M dep loc q
def pS (bs:List Int) (T:List ByteArray) (N:List Int) (dep loc q:Int):Except (Int × Int) (Pg × Int) :=
  match aZO [] (bZf bs) (cmpL cmpS) bs q 0 (4096 - T.length - N.length) with | .error f=>.error f | .ok (S,q)=>pM bs T N S dep loc q
def pN (bs:List Int) (T:List ByteArray) (dep loc q:Int):Except (Int × Int) (Pg × Int) :=
  match aZO 0 (numF bs) cmpI bs q 0 (4096 - T.length) with | .error f=>.error f | .ok (N,q)=>pS bs T N dep loc q
def pT (bs:List Int) (dep loc q:Int):Except (Int × Int) (Pg × Int) :=
  match aZO ByteArray.empty (bZi bs) cmpS bs q 0 4096 with | .error f=>.error f | .ok (T,q)=>pN bs T dep loc q
def pLoc (bs:List Int) (dep q:Int):Except (Int × Int) (Pg × Int):=match aZm bs q 0 1024 with | .error f=>.error f | .ok (loc,q)=>pT bs dep loc q
def pDep (bs:List Int) (q:Int):Except (Int × Int) (Pg × Int):=match aZm bs q 0 128 with | .error f=>.error f | .ok (dep,q)=>pLoc bs dep q
def aZG (bs:List Int):Except (Int × Int) (Pg × Int):=match bZ2 bs 4 0 with|some f=>.error f|none=>pDep bs 4
theorem eZb (bs:List Int):dZk bs (aZ9 bs):=by
 intro p x q hp h
 unfold aZ9 at h
 split at h
 · simp at h
 split at h
 · simp at h
 ·
  have g:∀ b d q0 y q1,getN bs b d q0=.ok (y,q1)→q0≤q1∧(q0≤bs.length→q1≤bs.length):=by
   intro b d q0 y q1 hg
   unfold getN at hg
   split at hg
   ·
    have:=aZt hg
    omega
   ·
    simp only [Except.ok.injEq,Prod.mk.injEq] at hg
    omega
  simp only [aZH] at h
  split at h
  · simp at h
  rename_i a1 q1 h1
  split at h
  · simp at h
  rename_i a2 q2 h2
  split at h
  · simp at h
  rename_i a3 q3 h3
  simp only [Except.ok.injEq,Prod.mk.injEq] at h
  have:=g _ _ _ _ _ h1
  have:=g _ _ _ _ _ h2
  have:=g _ _ _ _ _ h3
  omega
structure StP (w W:World) (R:Nat) (A:Option Addr) (cp:Nat) (bs:List Int) (q:Int) (B X Z:Nat) (vT vN vS vM vC:Value) (g:Pg):Prop where
  rd:Rd w W R A cp bs q
  b:W.heap[B]?=some (.cells #[.pointer (some ⟨R,0,none⟩)] 123 (0,0))
  x:W.heap[X]?=some (.cells #[vT,vN,vS,vM,vC,.int .i64 g.dep,.int .i64 g.loc] 28 (0,0))
  z:W.heap[Z]?=some (.cells #[.slice none 0 0,.slice none 0 0,.slice none 0 0,.slice none 0 0,.slice none 0 0,.int .i64 0,.int .i64 0] 28 (0,0))
  bR:w.heap.size≤B
  zR:w.heap.size≤Z
  bX:B<X
  zX:Z<X
  ne:B≠Z
  rT:Kd.string.R 9 W w.heap.size (fun k=>X<k) vT g.T
  rN:(Kd.int .i64).R 3 W w.heap.size (fun k=>X<k) vN g.N
  rS:(Kd.slice 9 Kd.string).R 22 W w.heap.size (fun k=>X<k) vS g.S
  rM:(Kd.slice 3 (Kd.int .i64)).R 23 W w.heap.size (fun k=>X<k) vM g.M
  rC:k66.R 66 W w.heap.size (fun k=>X<k) vC g.C
section
variable {w W W2:World} {R:Nat} {A:Option Addr} {cp:Nat} {bs:List Int} {q q2:Int} {B X Z:Nat} {vT vN vS vM vC:Value} {g:Pg}
theorem StP.cells (h:StP w W R A cp bs q B X Z vT vN vS vM vC g) :
    W.cell? ⟨B,0,none⟩=some (.pointer (some ⟨R,0,none⟩)) ∧
    W.cell? ⟨X,0,none⟩=some vT∧W.cell? ⟨X,1,none⟩=some vN∧W.cell? ⟨X,2,none⟩=some vS∧W.cell? ⟨X,3,none⟩=some vM∧W.cell? ⟨X,4,none⟩=some vC∧W.cell? ⟨X,5,none⟩=some (.int .i64 g.dep)∧W.cell? ⟨X,6,none⟩=some (.int .i64 g.loc) ∧
    W.frozen? ⟨X,0,none⟩=false∧W.frozen? ⟨X,1,none⟩=false∧W.frozen? ⟨X,2,none⟩=false∧W.frozen? ⟨X,3,none⟩=false∧W.frozen? ⟨X,4,none⟩=false∧W.frozen? ⟨X,5,none⟩=false∧W.frozen? ⟨X,6,none⟩=false:=by
  refine ⟨?_,?_,?_,?_,?_,?_,?_,?_,?_,?_,?_,?_,?_,?_,?_⟩ <;> simp [World.cell?,World.frozen?,h.x,h.b]
theorem StP.zcells (h:StP w W R A cp bs q B X Z vT vN vS vM vC g) :
    W.cell? ⟨Z,0,none⟩=some (.slice none 0 0)∧W.cell? ⟨Z,1,none⟩=some (.slice none 0 0)∧W.cell? ⟨Z,2,none⟩=some (.slice none 0 0)∧W.cell? ⟨Z,3,none⟩=some (.slice none 0 0)∧W.cell? ⟨Z,4,none⟩=some (.slice none 0 0)∧W.cell? ⟨Z,5,none⟩=some (.int .i64 0)∧W.cell? ⟨Z,6,none⟩=some (.int .i64 0) ∧
    W.frozen? ⟨Z,0,none⟩=false∧W.frozen? ⟨Z,1,none⟩=false∧W.frozen? ⟨Z,2,none⟩=false∧W.frozen? ⟨Z,3,none⟩=false∧W.frozen? ⟨Z,4,none⟩=false∧W.frozen? ⟨Z,5,none⟩=false∧W.frozen? ⟨Z,6,none⟩=false:=by
  refine ⟨?_,?_,?_,?_,?_,?_,?_,?_,?_,?_,?_,?_,?_,?_⟩ <;> simp [World.cell?,World.frozen?,h.z]
theorem StP.call (h:StP w W R A cp bs q B X Z vT vN vS vM vC g) (hR:R<w.heap.size) (k:Rd W W2 R A cp bs q2):StP w W2 R A cp bs q2 B X Z vT vN vS vM vC g:=by
  have h1:=h.bR
  have h2:=h.zR
  have h3:=h.bX
  have ne:∀ j,X<j→¬j=R:=fun j hj e=>by omega
  exact ⟨h.rd.trans k, (k.kept.2 B (aZd h.b) (by omega)).trans h.b, (k.kept.2 X (aZd h.x) (by omega)).trans h.x, (k.kept.2 Z (aZd h.z) (by omega)).trans h.z, h1, h2, h3, h.zX, h.ne,
    Kd.R_kept h.rT k.kept ne,Kd.R_kept h.rN k.kept ne,Kd.R_kept h.rS k.kept ne,Kd.R_kept h.rM k.kept ne,Kd.R_kept h.rC k.kept ne⟩
theorem StP.drew (h:StP w W R A cp bs q B X Z vT vN vS vM vC g):StP w W.drew R A cp bs q B X Z vT vN vS vM vC g :=
  ⟨h.rd.drew,h.b,h.x,h.z,h.bR,h.zR,h.bX,h.zX,h.ne,Kd.R_drew h.rT,Kd.R_drew h.rN,Kd.R_drew h.rS,Kd.R_drew h.rM,Kd.R_drew h.rC⟩
theorem StP.mine {α:Type} {d:Kd α} {e:Nat} {v:Value} {l:List α} (h:StP w W R A cp bs q B X Z vT vN vS vM vC g) (hv:d.R e W2 W.heap.size (fun _=>True) v l):d.R e W2 w.heap.size (fun k=>X<k) v l :=
  Kd.R_lower (Kd.R_mono (Kd.R_bound hv) (fun k hk=>by have:=hk.2.1;have:=aZd h.x;omega)) h.rd.kept.1
theorem StP.store (h:StP w W R A cp bs q B X Z vT vN vS vM vC g) (hR:R<w.heap.size) (i:Nat) (v:Value) :
 Rd w (W.setCell ⟨X,i,none⟩ v) R A cp bs q∧(W.setCell ⟨X,i,none⟩ v).heap[B]?=some (.cells #[.pointer (some ⟨R,0,none⟩)] 123 (0,0)) ∧
 (W.setCell ⟨X,i,none⟩ v).heap[X]?=some (.cells (#[vT,vN,vS,vM,vC,.int .i64 g.dep,.int .i64 g.loc].setIfInBounds i v) 28 (0,0)) ∧
 (W.setCell ⟨X,i,none⟩ v).heap[Z]?=some (.cells #[.slice none 0 0,.slice none 0 0,.slice none 0 0,.slice none 0 0,.slice none 0 0,.int .i64 0,.int .i64 0] 28 (0,0)):=by
 have h1:=h.bR
 have h2:=h.zR
 have h3:=h.bX
 have h4:=h.zX
 refine ⟨⟨h.rd.below.setCell (by simp;omega) _,h.rd.kept.setCell (.inr (by simp;omega)) _,?_,h.rd.row⟩,?_,?_,?_⟩
 · rw [Below.heap_setCell _ _ _ _ (by simp;omega)];exact h.rd.blk
 · rw [Below.heap_setCell _ _ _ _ (by simp;omega)];exact h.b
 · simp [World.setCell,h.x,Array.getElem?_modify]
 · rw [Below.heap_setCell _ _ _ _ (by simp;omega)];exact h.z
theorem far_ {α:Type} {d:Kd α} {e:Nat} {v u:Value} {l:List α} {i:Nat} (hv:d.R e W w.heap.size (fun k=>X<k) v l):d.R e (W.setCell ⟨X,i,none⟩ u) w.heap.size (fun k=>X<k) v l:=Kd.R_far hv (fun k hk=>by simp;omega) u
theorem StP.put0 (h:StP w W R A cp bs q B X Z vT vN vS vM vC g) (hR:R<w.heap.size) {v:Value} {l:List ByteArray} (hv:Kd.string.R 9 W w.heap.size (fun k=>X<k) v l) :
    StP w (W.setCell ⟨X,0,none⟩ v) R A cp bs q B X Z v vN vS vM vC { g with T:=l }:=by
  obtain ⟨a,b,c,d⟩:=h.store hR 0 v
  exact ⟨a,b,c,d,h.bR,h.zR,h.bX,h.zX,h.ne,far_ hv,far_ h.rN,far_ h.rS,far_ h.rM,far_ h.rC⟩
theorem StP.put1 (h:StP w W R A cp bs q B X Z vT vN vS vM vC g) (hR:R<w.heap.size) {v:Value} {l:List Int} (hv:(Kd.int .i64).R 3 W w.heap.size (fun k=>X<k) v l) :
    StP w (W.setCell ⟨X,1,none⟩ v) R A cp bs q B X Z vT v vS vM vC { g with N:=l }:=by
  obtain ⟨a,b,c,d⟩:=h.store hR 1 v
  exact ⟨a,b,c,d,h.bR,h.zR,h.bX,h.zX,h.ne,far_ h.rT,far_ hv,far_ h.rS,far_ h.rM,far_ h.rC⟩
theorem StP.put2 (h:StP w W R A cp bs q B X Z vT vN vS vM vC g) (hR:R<w.heap.size) {v:Value} {l:List (List ByteArray)} (hv:(Kd.slice 9 Kd.string).R 22 W w.heap.size (fun k=>X<k) v l) :
    StP w (W.setCell ⟨X,2,none⟩ v) R A cp bs q B X Z vT vN v vM vC { g with S:=l }:=by
  obtain ⟨a,b,c,d⟩:=h.store hR 2 v
  exact ⟨a,b,c,d,h.bR,h.zR,h.bX,h.zX,h.ne,far_ h.rT,far_ h.rN,far_ hv,far_ h.rM,far_ h.rC⟩
theorem StP.put3 (h:StP w W R A cp bs q B X Z vT vN vS vM vC g) (hR:R<w.heap.size) {v:Value} {l:List (List Int)} (hv:(Kd.slice 3 (Kd.int .i64)).R 23 W w.heap.size (fun k=>X<k) v l) :
    StP w (W.setCell ⟨X,3,none⟩ v) R A cp bs q B X Z vT vN vS v vC { g with M:=l }:=by
  obtain ⟨a,b,c,d⟩:=h.store hR 3 v
  exact ⟨a,b,c,d,h.bR,h.zR,h.bX,h.zX,h.ne,far_ h.rT,far_ h.rN,far_ h.rS,far_ hv,far_ h.rC⟩
theorem StP.put5 (h:StP w W R A cp bs q B X Z vT vN vS vM vC g) (hR:R<w.heap.size) (n:Int):StP w (W.setCell ⟨X,5,none⟩ (.int .i64 n)) R A cp bs q B X Z vT vN vS vM vC { g with dep:=n }:=by
  obtain ⟨a,b,c,d⟩:=h.store hR 5 (.int .i64 n)
  exact ⟨a,b,c,d,h.bR,h.zR,h.bX,h.zX,h.ne,far_ h.rT,far_ h.rN,far_ h.rS,far_ h.rM,far_ h.rC⟩
theorem StP.put6 (h:StP w W R A cp bs q B X Z vT vN vS vM vC g) (hR:R<w.heap.size) (n:Int):StP w (W.setCell ⟨X,6,none⟩ (.int .i64 n)) R A cp bs q B X Z vT vN vS vM vC { g with loc:=n }:=by
  obtain ⟨a,b,c,d⟩:=h.store hR 6 (.int .i64 n)
  exact ⟨a,b,c,d,h.bR,h.zR,h.bX,h.zX,h.ne,far_ h.rT,far_ h.rN,far_ h.rS,far_ h.rM,far_ h.rC⟩
theorem StP.grown (h:StP w W R A cp bs q B X Z vT vN vS vM vC g) (hR:R<w.heap.size) (hg:W.grownBy W2 vC.ownBlock) {v2:Value} {l2:List S66} (hv:k66.R 66 W2 w.heap.size (fun k=>X<k) v2 l2) :
 StP w (W2.setCell ⟨X,4,none⟩ v2) R A cp bs q B X Z vT vN vS vM v2 { g with C:=l2 }:=by
 have h1:=h.bR
 have h2:=h.zR
 have h3:=h.bX
 have h4:=h.zX
 have hC:∀ k,vC.ownBlock=some k→X<k:=h.rC.1
 have hb:∀ k o,k≤X→W.heap[k]?=some o→W2.heap[k]?=some o:=fun k o hk ho=>(hg.block k (aZd ho) (fun e=>by have:=hC k e.symm;omega)).trans ho
 have e:∀ k,k≠X→(W2.setCell ⟨X,4,none⟩ v2).heap[k]?=W2.heap[k]?:=fun k hk=>Below.heap_setCell _ _ _ _ (by simpa using hk)
 refine ⟨⟨(h.rd.below.grown hg (Nat.le_of_lt h.rd.lt) (fun k e=>by have:=hC k e;omega)).setCell (by simp;omega) _,(Kept.of_grown hg h.rd.kept (fun k e=>.inr (by have:=hC k e;omega))).setCell (.inr (by simp;omega)) _,?_,h.rd.row⟩,?_,?_,?_,h1,h2,h3,h4,h.ne,far_ (Kd.R_over h.rT h.rC (by decide) hg),far_ (Kd.R_over h.rN h.rC (by decide) hg),far_ (Kd.R_over h.rS h.rC (by decide) hg),far_ (Kd.R_over h.rM h.rC (by decide) hg),far_ hv⟩
 · rw [e _ (by omega)];exact hb _ _ (by omega) h.rd.blk
 · rw [e _ (by omega)];exact hb _ _ (by omega) h.b
 ·
  have:=hb X _ (Nat.le_refl _) h.x
  simp [World.setCell,this,Array.getElem?_modify]
 · rw [e _ (by omega)];exact hb _ _ (by omega) h.z
end
def opOK (b:Bool) (n:Int):Bool:=if b=true then decide (0≤n∧n≤65535) else decide (n=0)
def cZ2 (x:S66):Bool:=decide (1≤x.f0∧x.f0≤36) && (opOK (bZD x.f0).1 x.f1 && (opOK (bZD x.f0).2.1 x.f2 && opOK (bZD x.f0).2.2 x.f3))
def cZg (g:Pg):Bool:=decide (g.T.length+g.N.length+g.S.length+g.M.length≤4096) && (decide (g.C.length≤32768) && (decide (0≤g.dep∧g.dep≤128∧0≤g.loc∧g.loc≤1024) && (aZU cmpS okS none g.T && (aZU cmpI okI none g.N && (aZU (cmpL cmpS) okSS none g.S && (aZU (cmpL cmpI) okII none g.M && g.C.all cZ2))))))
structure InPg (w:World) (A0 A1 A2 A3 A4:Option Addr) (c0 c1 c2 c3 c4:Nat) (g:Pg):Prop where
  T:Kd.string.C w A0 g.T.length g.T
  N:(Kd.int .i64).C w A1 g.N.length g.N
  S:(Kd.slice 9 Kd.string).C w A2 g.S.length g.S
  M:(Kd.slice 3 (Kd.int .i64)).C w A3 g.M.length g.M
  C:k66.C w A4 g.C.length g.C
  lT:g.T.length≤c0
  lN:g.N.length≤c1
  lS:g.S.length≤c2
  lM:g.M.length≤c3
  lC:g.C.length≤c4
structure Fits (g:Pg):Prop where
  T:g.T.length≤140737488351232
  N:g.N.length≤140737488351232
  S:g.S.length≤140737488351232
  M:g.M.length≤140737488351232
  C:g.C.length≤140737488351232
  SS:∀ x∈g.S,x.length≤140737488351232
  MM:∀ x∈g.M,x.length≤140737488351232
theorem InPg.below {w W:World} {A0 A1 A2 A3 A4:Option Addr} {c0 c1 c2 c3 c4:Nat} {g:Pg} (h:InPg w A0 A1 A2 A3 A4 c0 c1 c2 c3 c4 g) (hb:Below w.heap.size w W):InPg W A0 A1 A2 A3 A4 c0 c1 c2 c3 c4 g :=
  ⟨Kd.C_below h.T hb,Kd.C_below h.N hb,Kd.C_below h.S hb,Kd.C_below h.M hb,Kd.C_below h.C hb,h.lT,h.lN,h.lS,h.lM,h.lC⟩
def cZs (A0 A1 A2 A3 A4:Option Addr) (c0 c1 c2 c3 c4:Nat) (g:Pg):Value :=
  .agg #[.slice A0 g.T.length c0,.slice A1 g.N.length c1,.slice A2 g.S.length c2,.slice A3 g.M.length c3,.slice A4 g.C.length c4,.int .i64 g.dep,.int .i64 g.loc]
section
variable (x y z:Int) (w:World)
theorem jnf3a:(Try.prog.info? 3).map (fun i=>i.size)=some 1:=by kernel_rfl
theorem jnf3:∃ i,Try.prog.info? 3=some i∧i.size=1:=Option.map_eq_some_iff.1 jnf3a
theorem jx77_0:(Instr.index 121 (.agg #[.int .i64 x,.int .i64 y,.int .i64 z]) (.int .i64 0)).run Try.prog w=.ok (.int .i64 x) w:=by
  obtain ⟨i,h1,h2⟩:=jnf3
  simp [Instr.index,run_underlying Try.underlying121,asIntOf,part,sizeOf,typeInfo,h1,h2,isAgg,run_underlying Try.underlying3,go_sem]
theorem jx77_1:(Instr.index 121 (.agg #[.int .i64 x,.int .i64 y,.int .i64 z]) (.int .i64 1)).run Try.prog w=.ok (.int .i64 y) w:=by
  obtain ⟨i,h1,h2⟩:=jnf3
  simp [Instr.index,run_underlying Try.underlying121,asIntOf,part,sizeOf,typeInfo,h1,h2,isAgg,run_underlying Try.underlying3,go_sem]
theorem jx77_2:(Instr.index 121 (.agg #[.int .i64 x,.int .i64 y,.int .i64 z]) (.int .i64 2)).run Try.prog w=.ok (.int .i64 z) w:=by
  obtain ⟨i,h1,h2⟩:=jnf3
  simp [Instr.index,run_underlying Try.underlying121,asIntOf,part,sizeOf,typeInfo,h1,h2,isAgg,run_underlying Try.underlying3,go_sem]
end
attribute [local go_sem] jx77_0 jx77_1 jx77_2
theorem boxed {W:World} {B:Nat} {a b c d e f g:Value} (h:W.heap[B]?=some (.cells #[a,b,c,d,e,f,g] 28 (0,0))):W.cell? ⟨B,0,none⟩=some a∧W.cell? ⟨B,1,none⟩=some b∧W.cell? ⟨B,2,none⟩=some c∧W.cell? ⟨B,3,none⟩=some d∧W.cell? ⟨B,4,none⟩=some e∧W.cell? ⟨B,5,none⟩=some f∧W.cell? ⟨B,6,none⟩=some g:=by
  refine ⟨?_,?_,?_,?_,?_,?_,?_⟩ <;> simp [World.cell?,h]
end Go.Proofs.Ytbnplhmmbnmagaa.D
namespace Go.Proofs.Ytbnplhmmbnmagaa.D
open Go.RowKit Go.Proofs.YtbnplhmmbnmagaaW.PrintWords Go.Proofs.YtbnplhmmbnmagaaW.PrintLast Go.Proofs.YtbnplhmmbnmagaaW.PrintMore Go.Proofs.Ytbnplhmmbnmagaa.All
def cntF:Nat→Int→List Int
  | 0,n=>[n % 256]
  | f+1,n=>if 128≤n then (n % 128+128) :: cntF f (n / 128) else [n % 256]
def aZI (n:Int):List Int:=cntF 9 n
def aZ0 (s:ByteArray):List Int:=aZI s.size++bytesOf s
def bZM (n:Int):List Int:=aZI (if n<0 then -2*n - 1 else 2*n)
def aZo {α:Type} (put:α→List Int) (l:List α):List Int:=aZI l.length++(l.map put).flatten
def aZT (x:S66):List Int:=[x.f0 % 256]++(if (bZD x.f0).1=true then aZI x.f1 else [])++(if (bZD x.f0).2.1=true then aZI x.f2 else [])++(if (bZD x.f0).2.2=true then aZI x.f3 else [])
def encP (g:Pg):List Int:=[66,82,84,1]++aZI g.dep++aZI g.loc++aZo aZ0 g.T++aZo bZM g.N++aZo (aZo aZ0) g.S++aZo (aZo bZM) g.M++aZo aZT g.C
theorem cntF_len:∀ f n,(cntF f n).length≤f+1
  | 0,n=>by simp [cntF]
  | f+1,n=>by
    unfold cntF
    split
    · have:=cntF_len f (n / 128)
      simp only [List.length_cons]
      omega
    · simp
theorem aZX (n:Int):(aZI n).length≤10:=cntF_len 9 n
theorem bZy {α:Type} (put:α→List Int) (B:Nat) (l:List α) (h:∀ x∈l,(put x).length≤B):(aZo put l).length≤10+l.length*B:=by
  unfold aZo
  have h0:=aZX l.length
  have:((l.map put).flatten).length≤l.length*B:=by
    clear h0
    induction l with
    | nil=>simp
    | cons a l ih =>
      have h1:=ih (fun x hx=>h x (List.mem_cons_of_mem _ hx))
      have h2:=h a List.mem_cons_self
      simp only [List.map_cons,List.flatten_cons,List.length_append,List.length_cons,Nat.add_mul,Nat.one_mul]
      omega
  rw [List.length_append]
  omega
theorem eZG (s:ByteArray) (h:s.size≤127):(aZ0 s).length≤137:=by
  unfold aZ0
  have:=aZX s.size
  rw [List.length_append,bZt]
  omega
theorem gZb (x:S66):(aZT x).length≤31:=by
  unfold aZT
  have h1:=aZX x.f1
  have h2:=aZX x.f2
  have h3:=aZX x.f3
  simp only [List.length_append,List.length_cons,List.length_nil]
  split <;> split <;> split <;> (try simp only [List.length_nil]) <;> omega
end Go.Proofs.Ytbnplhmmbnmagaa.D
