/- The reader's walks: text, num. -/
import Derived.Test.YtbnplhmmbnmagaazAYm0
import Derived.Test.YtbnplhmmbnmagaazAYm2
import Derived.Test.YtbnplhmmbnmagaazAYm4
import Derived.Test.YtbnplhmmbnmagaazAYm3
import Derived.Test.YtbnplhmmbnmagaazAYm5
import Derived.Test.YtbnplhmmbnmagaazAYm6
import Derived.Test.YtbnplhmmbnmagaazAYm7
import Derived.Test.YtbnplhmmbnmagaazAYm8
set_option maxHeartbeats 4000000
set_option maxRecDepth 100000
set_option linter.unusedVariables false
set_option linter.unusedSimpArgs false
namespace Go.Proofs.Ytbnplhmmbnmagaa.D
open Go.RowKit Go.Proofs.YtbnplhmmbnmagaaW.PrintWords Go.Proofs.YtbnplhmmbnmagaaW.PrintLast Go.Proofs.YtbnplhmmbnmagaaW.PrintMore Go.Proofs.Ytbnplhmmbnmagaa.All
theorem Rd.self {w wr:World} {R:Nat} {A:Option Addr} {c:Nat} {bs:List Int} {p:Int} (h:Rd w wr R A c bs p):Rd wr wr R A c bs p :=
  ⟨Below.refl _ _,Kept.refl _ _,h.blk,fun W hk=>h.row W (h.kept.then_ hk (fun _ h=>.inl h))⟩
theorem Rd.trans {w wr w2:World} {R:Nat} {A:Option Addr} {c:Nat} {bs:List Int} {p q:Int} (h:Rd w wr R A c bs p) (k:Rd wr w2 R A c bs q):Rd w w2 R A c bs q :=
  ⟨h.below.trans k.below,h.kept.then_ k.kept (fun _ h=>.inl h),k.blk,h.row⟩
theorem Fin.trans {α:Type} {w wr w2:World} {R:Nat} {A:Option Addr} {c:Nat} {bs:List Int} {p:Int} {r:Except (Int × Int) (α × Int)} {V:α→Value→World→Prop} {e:Ending} (h:Rd w wr R A c bs p) (k:Fin wr R A c bs r V e w2):Fin w R A c bs r V e w2:=by
 unfold Fin at k ⊢
 split at k
 ·
  obtain ⟨v,h1,h2,h3⟩:=k
  exact ⟨v,h1,h2,h.trans h3⟩
 ·
  obtain ⟨F,p,h1,h2,h3,h4⟩:=k
  exact ⟨F,p,h1,h2,h3,h.trans h4⟩
theorem Fin.err {α β:Type} {w w2:World} {R:Nat} {A:Option Addr} {c:Nat} {bs:List Int} {f:Int × Int} {V:α→Value→World→Prop} {V2:β→Value→World→Prop} {e:Ending} {r:Except (Int × Int) (β × Int)} (k:Fin w R A c bs (Except.error f:Except (Int × Int) (α × Int)) V e w2) (hr:r=.error f):Fin w R A c bs r V2 e w2:=by
  subst hr
  exact k
theorem Fin.pan {α:Type} {w w2:World} {R:Nat} {A:Option Addr} {c:Nat} {bs:List Int} {f:Int × Int} {V:α→Value→World→Prop} {e:Ending} (k:Fin w R A c bs (Except.error f:Except (Int × Int) (α × Int)) V e w2):∃ ps,e=.panicked ps:=by
  obtain ⟨F,p,h,_⟩:=k
  exact ⟨_,h⟩
theorem gZd (bs:List Int) (frm lo hi:Int):∀ (f k:Nat) (q m x q2:Int),bZK bs frm lo hi f k q m=.ok (x,q2)→lo≤x∧x≤hi∧q<q2∧q2≤bs.length
  | 0,k,q,m,x,q2,h=>by simp [bZK] at h
  | f+1,k,q,m,x,q2,h=>by
    rw [aZN bs frm lo hi f k q m _ _ rfl rfl] at h
    generalize m+bs.getD q.toNat 0 % 128*128 ^ k=y at h
    generalize bs.getD q.toNat 0=z at h
    split at h
    · simp at h
    split at h
    · simp at h
    split at h
    · have:=gZd bs frm lo hi f (k+1) (q+1) y x q2 h
      omega
    split at h
    · simp at h
    split at h
    · simp at h
    · simp only [Except.ok.injEq,Prod.mk.injEq] at h
      omega
theorem aZt {bs:List Int} {p lo hi x q:Int} (h:aZm bs p lo hi=.ok (x,q)):lo≤x∧x≤hi∧p<q∧q≤bs.length:=gZd bs p lo hi 9 0 p 0 x q h
structure Good (bs:List Int):Prop where
  byte:∀ x∈bs,0≤x∧x≤255
  len:bs.length≤200000000000000
def numF (bs:List Int) (p:Int):Except (Int × Int) (Int × Int) :=
  match aZm bs p 0 2000000000000000000 with
  | .error f=>.error f
  | .ok (n,q)=>.ok (if n % 2=1 then -(n / 2) - 1 else n / 2,q)
theorem num_any (w:World) (R:Nat) (A:Option Addr) (c:Nat) (bs:List Int) (p:Int) (h:Rd w w R A c bs p) (hp:0≤p) (hp2:p≤bs.length) (G:Good bs) :
 Calls Try.prog 86 #[.pointer (some ⟨R,0,none⟩)] w (Fin w R A c bs (numF bs p) (fun x v _=>v=.int .i64 x)):=by
 have HC:=bZs w R A c bs p 0 2000000000000000000 h hp hp2 G.byte G.len (by omega) (by omega)
 unfold numF
 cases hc:aZm bs p 0 2000000000000000000 with
 | error f =>
  rw [hc] at HC
  clear hc
  go_enter Try.func86,Try.ntmps86
  go_wp2_with ((with_reducible refine HC.mono ?_);intro e w' hf;obtain ⟨ps,rfl⟩:=hf.pan)
  exact ⟨rfl,hf.err rfl⟩
 | ok xq =>
  obtain ⟨x,q⟩:=xq
  obtain ⟨x1,x2,x3,x4⟩:=aZt hc
  rw [hc] at HC
  clear hc
  by_cases hodd:x % 2=1
  ·
   have e1:((if x % 2=1 then -(x / 2) - 1 else x / 2,q):Int × Int)=(-(x / 2) - 1,q):=by rw [if_pos hodd]
   dsimp only
   rw [e1]
   clear e1
   go_enter Try.func86,Try.ntmps86
   go_wp2_with ((with_reducible refine HC.mono ?_);rintro e w' ⟨v,rfl,rfl,hr⟩)
   go_ret
   exact ⟨_,rfl,rfl,hr⟩
  ·
   have e1:((if x % 2=1 then -(x / 2) - 1 else x / 2,q):Int × Int)=(x / 2,q):=by rw [if_neg hodd]
   dsimp only
   rw [e1]
   clear e1
   go_enter Try.func86,Try.ntmps86
   go_wp2_with ((with_reducible refine HC.mono ?_);rintro e w' ⟨v,rfl,rfl,hr⟩)
   go_ret
   exact ⟨_,rfl,rfl,hr⟩
def bZi (bs:List Int) (p:Int):Except (Int × Int) (ByteArray × Int) :=
  match aZm bs p 0 127 with
  | .error f=>.error f
  | .ok (n,q)=>if bs.length - q<n then .error (201,bs.length) else .ok (strOfNums ((bs.take (q+n).toNat).drop q.toNat),q+n)
theorem cut34 (A:Option Addr) (n c:Nat) (lo hi:Int) (h0:0≤lo) (h1:lo≤hi) (h2:hi≤n) (hc:n≤c) :
    ∀ W:World,(Instr.slice 53 (.slice A n c) (some (.int .i64 lo)) (some (.int .i64 hi)) none).run Try.prog W=.ok (.slice (if c=lo.toNat then A else A.map (·.add lo.toNat)) (hi.toNat - lo.toNat) (c - lo.toNat)) W:=by
  obtain ⟨i0,hi0,hzz⟩:=Option.map_eq_some_iff.1 info5
  simp only [Prod.mk.injEq] at hzz
  have:=cut_mid 53 5 .i64 .i64 Try.underlying53 hi0 1 hzz.2.1 A n c lo hi h0 h1 h2 hc
  rwa [Nat.mul_one] at this
theorem text_any (w:World) (R:Nat) (A:Option Addr) (c:Nat) (bs:List Int) (p:Int) (h:Rd w w R A c bs p) (hp:0≤p) (hp2:p≤bs.length) (G:Good bs) (hbc:bs.length≤c) :
 Calls Try.prog 84 #[.pointer (some ⟨R,0,none⟩)] w (Fin w R A c bs (bZi bs p) (fun x v _=>v=.string x)):=by
 have HC:=bZs w R A c bs p 0 127 h hp hp2 G.byte G.len (by omega) (by omega)
 unfold bZi
 cases hc:aZm bs p 0 127 with
 | error f =>
  rw [hc] at HC
  clear hc
  go_enter Try.func84,Try.ntmps84
  go_wp2_with ((with_reducible refine HC.mono ?_);intro e w' hf;obtain ⟨ps,rfl⟩:=hf.pan)
  exact ⟨rfl,hf.err rfl⟩
 | ok xq =>
  obtain ⟨x,q⟩:=xq
  obtain ⟨x1,x2,x3,x4⟩:=aZt hc
  rw [hc] at HC
  clear hc
  have hlen:=G.len
  by_cases hcut:bs.length - q<x
  ·
   have e1:(if bs.length - q<x then .error (201,(bs.length:Int)) else .ok (strOfNums ((bs.take (q+x).toNat).drop q.toNat),q+x):Except (Int × Int) (ByteArray × Int))=.error (201,bs.length):=by rw [if_pos hcut]
   dsimp only
   rw [e1]
   clear e1
   go_enter Try.func84,Try.ntmps84
   go_wp2_with ((with_reducible refine HC.mono ?_);rintro e w' ⟨v,rfl,rfl,hr⟩;obtain ⟨c0,c1,z1⟩:=hr.cells)
   go_region
   go_wp2_with ((with_reducible refine (aZ3 _ _ _).mono ?_);rintro e w2 ⟨rfl,rfl⟩)
   exact ⟨rfl,(Fin.fail hr rfl rfl).pdrew⟩
  ·
   have e1:(if bs.length - q<x then .error (201,(bs.length:Int)) else .ok (strOfNums ((bs.take (q+x).toNat).drop q.toNat),q+x):Except (Int × Int) (ByteArray × Int))=.ok (strOfNums ((bs.take (q+x).toNat).drop q.toNat),q+x):=by rw [if_neg hcut]
   dsimp only
   rw [e1]
   clear e1
   have hsl:=cut34 A bs.length c q (q+x) (by omega) (by omega) (by omega) hbc
   go_enter Try.func84,Try.ntmps84
   go_wp2_with ((with_reducible refine HC.mono ?_);rintro e w' ⟨v,rfl,rfl,hr⟩;obtain ⟨c0,c1,z1⟩:=hr.cells)
   go_region
   go_wp2_with (fail)
   have hr2:=hr.set (q+x)
   have hm:=Kd.C_mid (lo:=q.toNat) (hi:=(q+x).toNat) (hr2.row _ hr2.kept) (by omega) (by omega) hbc
   have hln:((bs.take (q+x).toNat).drop q.toNat).length=(q+x).toNat - q.toNat:=by rw [List.length_drop,List.length_take];omega
   rw [hln] at hm
   have hk1:(Kd.int .u8).sz=1:=rfl
   rw [hk1,Nat.mul_one] at hm
   generalize (if c=q.toNat then A else Option.map (fun x=>x.add q.toNat) A)=A' at hsl hm
   have H1:=Kd.C_string (P:=Try.prog) (c:=c - q.toNat) Try.underlying53 Try.underlying5 Try.underlying9 (Kd.C_drew (Kd.C_drew hm))
   clear hm hln hk1
   go_region
   go_wp2_with (fail)
   go_ret
   exact ⟨_,rfl,rfl,hr2.drew.drew⟩
section
variable (x y z:Addr) (w:World)
theorem inf123a:(Try.prog.info? 179).map (fun i=>i.size)=some 1:=by kernel_rfl
theorem inf123:∃ i,Try.prog.info? 179=some i∧i.size=1:=Option.map_eq_some_iff.1 inf123a
theorem ix124_0:(Instr.index 180 (.agg #[.pointer (some x),.pointer (some y),.pointer (some z)]) (.int .i64 0)).run Try.prog w=.ok (.pointer (some x)) w:=by
  obtain ⟨i,h1,h2⟩:=inf123
  simp [Instr.index,run_underlying Try.underlying180,asIntOf,part,sizeOf,typeInfo,h1,h2,isAgg,run_underlying Try.underlying179,go_sem]
theorem ix124_1:(Instr.index 180 (.agg #[.pointer (some x),.pointer (some y),.pointer (some z)]) (.int .i64 1)).run Try.prog w=.ok (.pointer (some y)) w:=by
  obtain ⟨i,h1,h2⟩:=inf123
  simp [Instr.index,run_underlying Try.underlying180,asIntOf,part,sizeOf,typeInfo,h1,h2,isAgg,run_underlying Try.underlying179,go_sem]
theorem ix124_2:(Instr.index 180 (.agg #[.pointer (some x),.pointer (some y),.pointer (some z)]) (.int .i64 2)).run Try.prog w=.ok (.pointer (some z)) w:=by
  obtain ⟨i,h1,h2⟩:=inf123
  simp [Instr.index,run_underlying Try.underlying180,asIntOf,part,sizeOf,typeInfo,h1,h2,isAgg,run_underlying Try.underlying179,go_sem]
end
attribute [local go_sem] ix124_0 ix124_1 ix124_2
def getN (bs:List Int) (b:Bool) (d q:Int):Except (Int × Int) (Int × Int):=if b=true then aZm bs q 0 65535 else .ok (d,q)
def aZH (bs:List Int) (u:Bool × Bool × Bool) (op:Int):Nat→Int→Int→Int→Int→Except (Int × Int) (S66 × Int)
  | 0,a,b,c,q=>match getN bs u.1 a q with | .error f=>.error f | .ok (a,q)=>match getN bs u.2.1 b q with | .error f=>.error f | .ok (b,q)=>match getN bs u.2.2 c q with | .error f=>.error f | .ok (c,q)=>.ok (⟨op,a,b,c⟩,q)
  | 1,a,b,c,q=>match getN bs u.2.1 b q with | .error f=>.error f | .ok (b,q)=>match getN bs u.2.2 c q with | .error f=>.error f | .ok (c,q)=>.ok (⟨op,a,b,c⟩,q)
  | 2,a,b,c,q=>match getN bs u.2.2 c q with | .error f=>.error f | .ok (c,q)=>.ok (⟨op,a,b,c⟩,q)
  | _,a,b,c,q=>.ok (⟨op,a,b,c⟩,q)
theorem fZ5 (bs:List Int) (b2 b3:Bool) (op a b c q:Int):aZH bs (true,b2,b3) op 0 a b c q=match aZm bs q 0 65535 with | .error f=>.error f | .ok (a,q)=>aZH bs (true,b2,b3) op 1 a b c q:=rfl
theorem fZ4 (bs:List Int) (b1 b3:Bool) (op a b c q:Int):aZH bs (b1,true,b3) op 1 a b c q=match aZm bs q 0 65535 with | .error f=>.error f | .ok (b,q)=>aZH bs (b1,true,b3) op 2 a b c q:=rfl
theorem fZ3 (bs:List Int) (b1 b2:Bool) (op a b c q:Int):aZH bs (b1,b2,true) op 2 a b c q=match aZm bs q 0 65535 with | .error f=>.error f | .ok (c,q)=>aZH bs (b1,b2,true) op 3 a b c q:=rfl
def aZ9 (bs:List Int) (p:Int):Except (Int × Int) (S66 × Int) :=
  if (bs.length:Int)≤p then .error (201,bs.length)
  else if bs.getD p.toNat 0<1∨36<bs.getD p.toNat 0 then .error (203,p)
  else aZH bs (bZD (bs.getD p.toNat 0)) (bs.getD p.toNat 0) 0 0 0 0 (p+1)
structure StI (w W:World) (R:Nat) (A:Option Addr) (cp:Nat) (bs:List Int) (q:Int) (X U Z:Nat) (op a b c:Int) (u:Bool × Bool × Bool):Prop where
  rd:Rd w W R A cp bs q
  x:W.heap[X]?=some (.cells #[.int .i64 op,.int .i64 a,.int .i64 b,.int .i64 c] 66 (0,0))
  u:W.heap[U]?=some (.cells #[.bool u.1,.bool u.2.1,.bool u.2.2] 119 (0,0))
  xR:w.heap.size≤X
  uR:w.heap.size≤U
  ne:X≠U
  z:W.heap[Z]?=some (.cells #[.int .i64 0,.int .i64 0,.int .i64 0,.int .i64 0] 66 (0,0))
  zR:w.heap.size≤Z
  nz:X≠Z
theorem StI.cells {w W:World} {R:Nat} {A:Option Addr} {cp:Nat} {bs:List Int} {q:Int} {X U Z:Nat} {op a b c:Int} {u:Bool × Bool × Bool} (h:StI w W R A cp bs q X U Z op a b c u) :
    W.cell? ⟨U,0,none⟩=some (.bool u.1)∧W.cell? ⟨U,1,none⟩=some (.bool u.2.1)∧W.cell? ⟨U,2,none⟩=some (.bool u.2.2) ∧
    W.cell? ⟨X,0,none⟩=some (.int .i64 op)∧W.cell? ⟨X,1,none⟩=some (.int .i64 a)∧W.cell? ⟨X,2,none⟩=some (.int .i64 b)∧W.cell? ⟨X,3,none⟩=some (.int .i64 c) ∧
    W.frozen? ⟨X,1,none⟩=false∧W.frozen? ⟨X,2,none⟩=false∧W.frozen? ⟨X,3,none⟩=false∧(W.cell? ⟨Z,0,none⟩=some (.int .i64 0)∧W.cell? ⟨Z,1,none⟩=some (.int .i64 0)∧W.cell? ⟨Z,2,none⟩=some (.int .i64 0)∧W.cell? ⟨Z,3,none⟩=some (.int .i64 0))∧(W.frozen? ⟨Z,0,none⟩=false∧W.frozen? ⟨Z,1,none⟩=false∧W.frozen? ⟨Z,2,none⟩=false∧W.frozen? ⟨Z,3,none⟩=false):=by
  refine ⟨?_,?_,?_,?_,?_,?_,?_,?_,?_,?_,⟨?_,?_,?_,?_⟩,?_,?_,?_,?_⟩ <;> simp [World.cell?,World.frozen?,h.x,h.u,h.z]
theorem StI.call {w W W2:World} {R:Nat} {A:Option Addr} {cp:Nat} {bs:List Int} {q q2:Int} {X U Z:Nat} {op a b c:Int} {u:Bool × Bool × Bool} (h:StI w W R A cp bs q X U Z op a b c u) (hR:R<w.heap.size) (k:Rd W W2 R A cp bs q2):StI w W2 R A cp bs q2 X U Z op a b c u :=
  ⟨h.rd.trans k,(k.kept.2 X (aZd h.x) (by have:=h.xR;omega)).trans h.x,(k.kept.2 U (aZd h.u) (by have:=h.uR;omega)).trans h.u,h.xR,h.uR,h.ne,(k.kept.2 Z (aZd h.z) (by have:=h.zR;omega)).trans h.z,h.zR,h.nz⟩
theorem StI.put1 {w W:World} {R:Nat} {A:Option Addr} {cp:Nat} {bs:List Int} {q:Int} {X U Z:Nat} {op a b c:Int} {u:Bool × Bool × Bool} (h:StI w W R A cp bs q X U Z op a b c u) (hR:R<w.heap.size) (n:Int) :
    StI w (W.setCell ⟨X,1,none⟩ (.int .i64 n)) R A cp bs q X U Z op n b c u∧StI w (W.setCell ⟨X,2,none⟩ (.int .i64 n)) R A cp bs q X U Z op a n c u∧StI w (W.setCell ⟨X,3,none⟩ (.int .i64 n)) R A cp bs q X U Z op a b n u:=by
  have hX:=h.xR
  have hn:=h.ne
  have hz:=h.zR
  have hnz:=h.nz
  refine ⟨⟨⟨h.rd.below.setCell (by simp;omega) _,h.rd.kept.setCell (.inr hX) _,?_,h.rd.row⟩,?_,?_,hX,h.uR,hn,?_,hz,hnz⟩,⟨⟨h.rd.below.setCell (by simp;omega) _,h.rd.kept.setCell (.inr hX) _,?_,h.rd.row⟩,?_,?_,hX,h.uR,hn,?_,hz,hnz⟩,⟨⟨h.rd.below.setCell (by simp;omega) _,h.rd.kept.setCell (.inr hX) _,?_,h.rd.row⟩,?_,?_,hX,h.uR,hn,?_,hz,hnz⟩⟩
  all_goals first
    | (rw [Below.heap_setCell _ _ _ _ (by simp;omega)];exact h.rd.blk)
    | (rw [Below.heap_setCell _ _ _ _ (by simp;omega)];exact h.u)
    | (rw [Below.heap_setCell _ _ _ _ (by simp;omega)];exact h.z)
    | simp [World.setCell,h.x,Array.getElem?_modify]
theorem Rd.step {w wr w2:World} {R:Nat} {A:Option Addr} {c:Nat} {bs:List Int} {p:Int} (h:Rd w wr R A c bs p) (hb:Below wr.heap.size wr w2):Rd w w2 R A c bs p :=
  ⟨h.below.trans (hb.mono (Nat.le_of_lt h.lt)),h.kept.below hb,(hb.block R h.lt).trans h.blk,h.row⟩
theorem i3_start {w w3:World} {R:Nat} {A:Option Addr} {cp:Nat} {bs:List Int} {p q op:Int} {u:Bool × Bool × Bool} (h:Rd w w R A cp bs p)
 (bel : Below ((((w.setCell ⟨R, 1, none⟩ (.int .i64 q)).alloc (.cells #[.int .i64 0, .int .i64 0, .int .i64 0, .int .i64 0] 66)).alloc (.cells #[.int .i64 op, .int .i64 0, .int .i64 0, .int .i64 0] 66)).drew.drew).heap.size
  (((w.setCell ⟨R,1,none⟩ (.int .i64 q)).alloc (.cells #[.int .i64 0,.int .i64 0,.int .i64 0,.int .i64 0] 66)).alloc (.cells #[.int .i64 op,.int .i64 0,.int .i64 0,.int .i64 0] 66)).drew.drew w3) :
 StI w (w3.alloc (.cells #[.bool u.1,.bool u.2.1,.bool u.2.2] 119)) R A cp bs q (w.heap.size+1) w3.heap.size w.heap.size op 0 0 0 u:=by
 have h4:=(((h.set q).alloc (.cells #[.int .i64 0,.int .i64 0,.int .i64 0,.int .i64 0] 66)).alloc (.cells #[.int .i64 op,.int .i64 0,.int .i64 0,.int .i64 0] 66)).drew.drew.step bel
 have hs:=bel.size
 have hs2:w.heap.size+2≤w3.heap.size:=by simpa [World.setCell] using hs
 refine ⟨h4.alloc _,?_,heap_alloc_new _ _,by omega,by omega,by omega,?_,by omega,by omega⟩
 ·
  rw [heap_alloc_old _ _ (by omega),bel.block _ (by simp [World.setCell])]
  have:=heap_alloc_new ((w.setCell ⟨R,1,none⟩ (.int .i64 q)).alloc (.cells #[.int .i64 0,.int .i64 0,.int .i64 0,.int .i64 0] 66)) (.cells #[.int .i64 op,.int .i64 0,.int .i64 0,.int .i64 0] 66)
  have e2:((w.setCell ⟨R,1,none⟩ (.int .i64 q)).alloc (.cells #[.int .i64 0,.int .i64 0,.int .i64 0,.int .i64 0] 66)).heap.size=w.heap.size+1:=by simp [World.setCell]
  rw [e2] at this
  exact this
 ·
  rw [heap_alloc_old _ _ (by omega),bel.block _ (by simp [World.setCell];omega)]
  have:=heap_alloc_new (w.setCell ⟨R,1,none⟩ (.int .i64 q)) (.cells #[.int .i64 0,.int .i64 0,.int .i64 0,.int .i64 0] 66)
  have e:(w.setCell ⟨R,1,none⟩ (.int .i64 q)).heap.size=w.heap.size:=by simp [World.setCell]
  rw [e] at this
  show (((w.setCell ⟨R,1,none⟩ (.int .i64 q)).alloc _).alloc _).heap[w.heap.size]?=_
  rw [heap_alloc_old _ _ (by simp [World.setCell])]
  exact this
theorem StI.done {w W:World} {R:Nat} {A:Option Addr} {cp:Nat} {bs:List Int} {q:Int} {X U Z:Nat} {op a b c:Int} {u:Bool × Bool × Bool} (h:StI w W R A cp bs q X U Z op a b c u) (hR:R<w.heap.size) (v0 v1 v2 v3:Value) :
 Rd w ((((W.setCell ⟨Z,0,none⟩ v0).setCell ⟨Z,1,none⟩ v1).setCell ⟨Z,2,none⟩ v2).setCell ⟨Z,3,none⟩ v3) R A cp bs q∧((((W.setCell ⟨Z,0,none⟩ v0).setCell ⟨Z,1,none⟩ v1).setCell ⟨Z,2,none⟩ v2).setCell ⟨Z,3,none⟩ v3).heap[Z]?=some (.cells #[v0,v1,v2,v3] 66 (0,0)):=by
 have hZ:=h.zR
 refine ⟨⟨(((h.rd.below.setCell (by simp;omega) _).setCell (by simp;omega) _).setCell (by simp;omega) _).setCell (by simp;omega) _,(((h.rd.kept.setCell (.inr hZ) _).setCell (.inr hZ) _).setCell (.inr hZ) _).setCell (.inr hZ) _,?_,h.rd.row⟩,?_⟩
 ·
  rw [Below.heap_setCell _ _ _ _ (by simp;omega),Below.heap_setCell _ _ _ _ (by simp;omega),Below.heap_setCell _ _ _ _ (by simp;omega),Below.heap_setCell _ _ _ _ (by simp;omega)]
  exact h.rd.blk
 · simp [World.setCell,h.z,Array.getElem?_modify]
theorem instr_any (w:World) (R:Nat) (A:Option Addr) (cp:Nat) (bs:List Int) (p:Int) (h:Rd w w R A cp bs p) (hp:0≤p) (hp2:p≤bs.length) (G:Good bs) :
 Calls Try.prog 91 #[.pointer (some ⟨R,0,none⟩)] w (Fin w R A cp bs (aZ9 bs p) (fun x v _=>v=.agg #[.int .i64 x.f0,.int .i64 x.f1,.int .i64 x.f2,.int .i64 x.f3])):=by
 obtain ⟨c0,c1,z1⟩:=h.cells
 have hlen:=G.len
 have hlt:=h.lt
 unfold aZ9
 by_cases hend:(bs.length:Int)≤p
 ·
  rw [if_pos hend]
  go_enter Try.func91,Try.ntmps91
  go_wp2_with (fail)
  go_region
  go_wp2_with ((with_reducible refine (aZ3 _ _ _).mono ?_);rintro e w' ⟨rfl,rfl⟩)
  exact ⟨rfl,(Fin.fail (h.alloc _) (by simp) rfl).pdrew⟩
 ·
  rw [if_neg hend]
  obtain ⟨ad,rfl,hcell⟩:=h.byte p hp (by omega)
  have hx:=G.byte (bs.getD p.toNat 0) (by rw [List.getD_eq_getElem?_getD,List.getElem?_eq_getElem (by omega)];simp)
  have h2:=(h.alloc (.cells #[.int .i64 0,.int .i64 0,.int .i64 0,.int .i64 0] 66)).alloc (.cells #[.int .i64 0,.int .i64 0,.int .i64 0,.int .i64 0] 66)
  obtain ⟨ad',e',hcell2⟩:=h2.byte p hp (by omega)
  obtain rfl:=Option.some.inj e'
  clear e'
  obtain ⟨ad',e',hcell1⟩:=(h.alloc (.cells #[.int .i64 0,.int .i64 0,.int .i64 0,.int .i64 0] 66)).byte p hp (by omega)
  obtain rfl:=Option.some.inj e'
  clear e'
  generalize bs.getD p.toNat 0=op at hcell hx hcell1 hcell2
  by_cases hop:op<1∨36<op
  ·
   rw [if_pos hop]
   go_enter Try.func91,Try.ntmps91
   go_wp2_with (fail)
   go_region
   go_wp2_with (fail)
   go_region
   go_wp2_with ((with_reducible refine (aZ3 _ _ _).mono ?_);rintro e w' ⟨rfl,rfl⟩)
   all_goals exact ⟨rfl,(Fin.fail ((h.alloc _).alloc _) (by simp) rfl).pdrew.pdrew⟩
  ·
   rw [if_neg hop]
   have hop':1≤op∧op≤36:=by omega
   generalize hu:bZD op=u
   have uw:∀ W,Calls Try.prog 51 #[.int .i64 op] W fun re w'=>re=.returned (.agg #[.bool u.1,.bool u.2.1,.bool u.2.2])∧Below W.heap.size W w':=fun W=>by
    have:=uses.walk op W
    rw [hu] at this
    exact this
   clear hu
   generalize hF:aZH bs u op 0 0 0 0 (p+1)=F
   have HF:=hid_ hF;clear hF
   go_enter Try.func91,Try.ntmps91
   go_wp2_with (fail)
   go_region
   go_wp2_with (fail)
   go_region
   go_wp2_with ((with_reducible refine (uw _).mono ?_);rintro e w3 ⟨rfl,bel⟩)
   have hS:=i3_start (u:=u) h bel
   clear bel hcell1 hcell2 hcell c0 c1 z1 uw h2
   generalize w3.heap.size=U at hS ⊢
   generalize w3.alloc (.cells #[.bool u.1,.bool u.2.1,.bool u.2.2] 119)=w4 at hS ⊢
   go_loopw [62] (fun i wr=>∃ (k:Nat) (a b c q:Int),k≤3∧i=.int .i64 k∧0≤q∧q≤bs.length∧StI w wr R (some ad) cp bs q (w.heap.size+1) U w.heap.size op a b c u∧aZH bs u op k a b c q=F) (fun i _=>3 - (intOf i).toNat)
   case atStart=>exact ⟨0,0,0,0,p+1,by omega,rfl,by omega,by omega,hS,HF.out⟩
   case round =>
    clear hS HF
    obtain ⟨k,a,b,c,q,hk,rfl,hq,hq2,hS,he⟩:=hrel
    have HE:=hid_ he;clear he
    obtain ⟨b1,b2,b3⟩:=u
    obtain ⟨e0,e1,e2,x0,x1,x2,x3,f1,f2,f3,⟨y0,y1,y2,y3⟩,g0,g1,g2,g3⟩:=hS.cells
    have HC:=bZs _ R (some ad) cp bs q 0 65535 hS.rd.self hq hq2 G.byte G.len (by omega) (by omega)
    have hk':k=0∨k=1∨k=2∨k=3:=by omega
    rcases hk' with rfl|rfl|rfl|rfl
    ·
     cases b1
     ·
      have HE1:aZH bs (false,b2,b3) op 1 a b c q=F:=HE.out
      have HE2:=hid_ HE1
      clear HE HE1 HC
      go_wp2_with (fail)
      go_roundw
      case rel=>exact ⟨1,a,b,c,q,by omega,rfl,hq,hq2,hS,HE2.out⟩
      case measure=>simp [intOf]
     ·
      cases hc:aZm bs q 0 65535 with
      | error f =>
       rw [hc] at HC
       have HE1:=HE.out
       rw [fZ5,hc] at HE1
       have HE2:Hid (F=Except.error f):=hid_ HE1.symm
       clear HE HE1 hc
       go_wp2_with ((with_reducible refine HC.mono ?_);intro e w' hf;obtain ⟨ps,rfl⟩:=hf.pan)
       exact ⟨rfl,Fin.trans hS.rd (hf.err HE2.out)⟩
      | ok xq =>
       obtain ⟨x,q2⟩:=xq
       obtain ⟨n1,n2,n3,n4⟩:=aZt hc
       rw [hc] at HC
       have HE1:=HE.out
       rw [fZ5,hc] at HE1
       have HE2:Hid (aZH bs (true,b2,b3) op 1 x b c q2=F):=hid_ HE1
       clear HE HE1 hc e0 e1 e2 x0 x1 x2 x3 f1 f2 f3 y0 y1 y2 y3 g0 g1 g2 g3
       obtain ⟨e0,e1,e2,x0,x1,x2,x3,f1,f2,f3,_⟩:=hS.cells
       go_wp2_with ((with_reducible refine HC.mono ?_);rintro e w' ⟨v,rfl,rfl,hr⟩;have hS2:=hS.call hlt hr;clear e0 e1 e2 x0 x1 x2 x3 f1 f2 f3;obtain ⟨e0,e1,e2,x0,x1,x2,x3,f1,f2,f3,_⟩:=hS2.cells)
       go_roundw
       case rel=>exact ⟨1,x,b,c,q2,by omega,rfl,by omega,n4,(hS2.put1 hlt x).1,HE2.out⟩
       case measure=>simp [intOf]
    ·
     cases b2
     ·
      have HE1:aZH bs (b1,false,b3) op 2 a b c q=F:=HE.out
      have HE2:=hid_ HE1
      clear HE HE1 HC
      go_wp2_with (fail)
      go_roundw
      case rel=>exact ⟨2,a,b,c,q,by omega,rfl,hq,hq2,hS,HE2.out⟩
      case measure=>simp [intOf]
     ·
      cases hc:aZm bs q 0 65535 with
      | error f =>
       rw [hc] at HC
       have HE1:=HE.out
       rw [fZ4,hc] at HE1
       have HE2:Hid (F=Except.error f):=hid_ HE1.symm
       clear HE HE1 hc
       go_wp2_with ((with_reducible refine HC.mono ?_);intro e w' hf;obtain ⟨ps,rfl⟩:=hf.pan)
       exact ⟨rfl,Fin.trans hS.rd (hf.err HE2.out)⟩
      | ok xq =>
       obtain ⟨x,q2⟩:=xq
       obtain ⟨n1,n2,n3,n4⟩:=aZt hc
       rw [hc] at HC
       have HE1:=HE.out
       rw [fZ4,hc] at HE1
       have HE2:Hid (aZH bs (b1,true,b3) op 2 a x c q2=F):=hid_ HE1
       clear HE HE1 hc e0 e1 e2 x0 x1 x2 x3 f1 f2 f3 y0 y1 y2 y3 g0 g1 g2 g3
       obtain ⟨e0,e1,e2,x0,x1,x2,x3,f1,f2,f3,_⟩:=hS.cells
       go_wp2_with ((with_reducible refine HC.mono ?_);rintro e w' ⟨v,rfl,rfl,hr⟩;have hS2:=hS.call hlt hr;clear e0 e1 e2 x0 x1 x2 x3 f1 f2 f3;obtain ⟨e0,e1,e2,x0,x1,x2,x3,f1,f2,f3,_⟩:=hS2.cells)
       go_roundw
       case rel=>exact ⟨2,a,x,c,q2,by omega,rfl,by omega,n4,(hS2.put1 hlt x).2.1,HE2.out⟩
       case measure=>simp [intOf]
    ·
     cases b3
     ·
      have HE1:aZH bs (b1,b2,false) op 3 a b c q=F:=HE.out
      have HE2:=hid_ HE1
      clear HE HE1 HC
      go_wp2_with (fail)
      go_roundw
      case rel=>exact ⟨3,a,b,c,q,by omega,rfl,hq,hq2,hS,HE2.out⟩
      case measure=>simp [intOf]
     ·
      cases hc:aZm bs q 0 65535 with
      | error f =>
       rw [hc] at HC
       have HE1:=HE.out
       rw [fZ3,hc] at HE1
       have HE2:Hid (F=Except.error f):=hid_ HE1.symm
       clear HE HE1 hc
       go_wp2_with ((with_reducible refine HC.mono ?_);intro e w' hf;obtain ⟨ps,rfl⟩:=hf.pan)
       exact ⟨rfl,Fin.trans hS.rd (hf.err HE2.out)⟩
      | ok xq =>
       obtain ⟨x,q2⟩:=xq
       obtain ⟨n1,n2,n3,n4⟩:=aZt hc
       rw [hc] at HC
       have HE1:=HE.out
       rw [fZ3,hc] at HE1
       have HE2:Hid (aZH bs (b1,b2,true) op 3 a b x q2=F):=hid_ HE1
       clear HE HE1 hc e0 e1 e2 x0 x1 x2 x3 f1 f2 f3 y0 y1 y2 y3 g0 g1 g2 g3
       obtain ⟨e0,e1,e2,x0,x1,x2,x3,f1,f2,f3,_⟩:=hS.cells
       go_wp2_with ((with_reducible refine HC.mono ?_);rintro e w' ⟨v,rfl,rfl,hr⟩;have hS2:=hS.call hlt hr;clear e0 e1 e2 x0 x1 x2 x3 f1 f2 f3;obtain ⟨e0,e1,e2,x0,x1,x2,x3,f1,f2,f3,_⟩:=hS2.cells)
       go_roundw
       case rel=>exact ⟨3,a,b,x,q2,by omega,rfl,by omega,n4,(hS2.put1 hlt x).2.2,HE2.out⟩
       case measure=>simp [intOf]
    ·
     have HE1:Except.ok ((⟨op,a,b,c⟩:S66),q)=F:=HE.out
     clear HE HC
     subst HE1
     go_wp2_with (fail)
     have hd:=hS.done hlt (.int .i64 op) (.int .i64 a) (.int .i64 b) (.int .i64 c)
     exact bodyPost_ret (results_cell_row rfl _ _ w.heap.size _ _ _ _ rfl hd.2 Try.underlying66 rfl rfl) rfl ⟨_,rfl,rfl,hd.1⟩
end Go.Proofs.Ytbnplhmmbnmagaa.D
