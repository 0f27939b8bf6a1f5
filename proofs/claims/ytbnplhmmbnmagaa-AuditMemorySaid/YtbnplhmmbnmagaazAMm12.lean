/- The reader's walks: text, num. -/
import Derived.Test.YtbnplhmmbnmagaazAMm0
import Derived.Test.YtbnplhmmbnmagaazAMm2
import Derived.Test.YtbnplhmmbnmagaazAMm3
import Derived.Test.YtbnplhmmbnmagaazAMm4
set_option maxHeartbeats 4000000
set_option maxRecDepth 100000
set_option linter.all false
namespace Go.Proofs.Ytbnplhmmbnmagaa.D
open Go.RowKit Go.Proofs.YtbnplhmmbnmagaaW.PrintWords Go.Proofs.YtbnplhmmbnmagaaW.PrintLast Go.Proofs.YtbnplhmmbnmagaaW.PrintMore Go.Proofs.Ytbnplhmmbnmagaa.All
theorem Rd.self {w wr:World} {R:Nat} {A:Option Addr} {c:Nat} {bs:List Int} {p:Int} (h:Rd w wr R A c bs p):Rd wr wr R A c bs p :=
  ⟨Below.refl _ _,Kept.refl _ _,h.blk,fun W hk=>h.row W (h.kept.then_ hk (fun _ h=>.inl h))⟩
theorem Rd.trans {w wr w2:World} {R:Nat} {A:Option Addr} {c:Nat} {bs:List Int} {p q:Int} (h:Rd w wr R A c bs p) (k:Rd wr w2 R A c bs q):Rd w w2 R A c bs q :=
  ⟨h.below.trans k.below,h.kept.then_ k.kept (fun _ h=>.inl h),k.blk,h.row⟩
theorem Fin.trans {α:Type} {w wr w2:World} {R:Nat} {A:Option Addr} {c:Nat} {bs:List Int} {p:Int} {r:Except (Int × Int) (α × Int)} {V:α→Value→World→Prop} {e:Ending} (h:Rd w wr R A c bs p) (k:Fin wr R A c bs r V e w2):Fin w R A c bs r V e w2:=by
 unfold Fin at k ⊢
 split at k
 ·
  obtain ⟨v,h1,h2,h3⟩:=k
  exact ⟨v,h1,h2,h.trans h3⟩
 ·
  obtain ⟨F,p,h1,h2,h3,h4⟩:=k
  exact ⟨F,p,h1,h2,h3,h.trans h4⟩
theorem Fin.err {α β:Type} {w w2:World} {R:Nat} {A:Option Addr} {c:Nat} {bs:List Int} {f:Int × Int} {V:α→Value→World→Prop} {V2:β→Value→World→Prop} {e:Ending} {r:Except (Int × Int) (β × Int)} (k:Fin w R A c bs (Except.error f:Except (Int × Int) (α × Int)) V e w2) (hr:r=.error f):Fin w R A c bs r V2 e w2:=by
  subst hr
  exact k
theorem Fin.pan {α:Type} {w w2:World} {R:Nat} {A:Option Addr} {c:Nat} {bs:List Int} {f:Int × Int} {V:α→Value→World→Prop} {e:Ending} (k:Fin w R A c bs (Except.error f:Except (Int × Int) (α × Int)) V e w2):∃ ps,e=.panicked ps:=by
  obtain ⟨F,p,h,_⟩:=k
  exact ⟨_,h⟩
theorem gZF (bs:List Int) (frm lo hi:Int):∀ (f k:Nat) (q m x q2:Int),bZQ bs frm lo hi f k q m=.ok (x,q2)→lo≤x∧x≤hi∧q<q2∧q2≤bs.length
  | 0,k,q,m,x,q2,h=>by simp [bZQ] at h
  | f+1,k,q,m,x,q2,h=>by
    rw [aZP bs frm lo hi f k q m _ _ rfl rfl] at h
    generalize m+bs.getD q.toNat 0 % 128*128 ^ k=y at h
    generalize bs.getD q.toNat 0=z at h
    split at h
    · simp at h
    split at h
    · simp at h
    split at h
    · have:=gZF bs frm lo hi f (k+1) (q+1) y x q2 h
      omega
    split at h
    · simp at h
    split at h
    · simp at h
    · simp only [Except.ok.injEq,Prod.mk.injEq] at h
      omega
theorem aZs {bs:List Int} {p lo hi x q:Int} (h:aZn bs p lo hi=.ok (x,q)):lo≤x∧x≤hi∧p<q∧q≤bs.length:=gZF bs p lo hi 9 0 p 0 x q h
structure Good (bs:List Int):Prop where
  byte:∀ x∈bs,0≤x∧x≤255
  len:bs.length≤200000000000000
def numF (bs:List Int) (p:Int):Except (Int × Int) (Int × Int) :=
  match aZn bs p 0 2000000000000000000 with
  | .error f=>.error f
  | .ok (n,q)=>.ok (if n % 2=1 then -(n / 2) - 1 else n / 2,q)
theorem num_any (w:World) (R:Nat) (A:Option Addr) (c:Nat) (bs:List Int) (p:Int) (h:Rd w w R A c bs p) (hp:0≤p) (hp2:p≤bs.length) (G:Good bs) :
 Calls Try.prog 86 #[.pointer (some ⟨R,0,none⟩)] w (Fin w R A c bs (numF bs p) (fun x v _=>v=.int .i64 x)):=by
 have HC:=bZu w R A c bs p 0 2000000000000000000 h hp hp2 G.byte G.len (by omega) (by omega)
 unfold numF
 cases hc:aZn bs p 0 2000000000000000000 with
 | error f =>
  rw [hc] at HC
  clear hc
  go_enter Try.func86,Try.ntmps86
  go_wp2_with ((with_reducible refine HC.mono ?_);intro e w' hf;obtain ⟨ps,rfl⟩:=hf.pan)
  exact ⟨rfl,hf.err rfl⟩
 | ok xq =>
  obtain ⟨x,q⟩:=xq
  obtain ⟨x1,x2,x3,x4⟩:=aZs hc
  rw [hc] at HC
  clear hc
  by_cases hodd:x % 2=1
  ·
   have e1:((if x % 2=1 then -(x / 2) - 1 else x / 2,q):Int × Int)=(-(x / 2) - 1,q):=by rw [if_pos hodd]
   dsimp only
   rw [e1]
   clear e1
   go_enter Try.func86,Try.ntmps86
   go_wp2_with ((with_reducible refine HC.mono ?_);rintro e w' ⟨v,rfl,rfl,hr⟩)
   go_ret
   exact ⟨_,rfl,rfl,hr⟩
  ·
   have e1:((if x % 2=1 then -(x / 2) - 1 else x / 2,q):Int × Int)=(x / 2,q):=by rw [if_neg hodd]
   dsimp only
   rw [e1]
   clear e1
   go_enter Try.func86,Try.ntmps86
   go_wp2_with ((with_reducible refine HC.mono ?_);rintro e w' ⟨v,rfl,rfl,hr⟩)
   go_ret
   exact ⟨_,rfl,rfl,hr⟩
def bZh (bs:List Int) (p:Int):Except (Int × Int) (ByteArray × Int) :=
  match aZn bs p 0 127 with
  | .error f=>.error f
  | .ok (n,q)=>if bs.length - q<n then .error (201,bs.length) else .ok (strOfNums ((bs.take (q+n).toNat).drop q.toNat),q+n)
theorem cut34 (A:Option Addr) (n c:Nat) (lo hi:Int) (h0:0≤lo) (h1:lo≤hi) (h2:hi≤n) (hc:n≤c) :
    ∀ W:World,(Instr.slice 53 (.slice A n c) (some (.int .i64 lo)) (some (.int .i64 hi)) none).run Try.prog W=.ok (.slice (if c=lo.toNat then A else A.map (·.add lo.toNat)) (hi.toNat - lo.toNat) (c - lo.toNat)) W:=by
  obtain ⟨i0,hi0,hzz⟩:=Option.map_eq_some_iff.1 info5
  simp only [Prod.mk.injEq] at hzz
  have:=cut_mid 53 5 .i64 .i64 Try.underlying53 hi0 1 hzz.2.1 A n c lo hi h0 h1 h2 hc
  rwa [Nat.mul_one] at this
theorem hZr (w:World) (R:Nat) (A:Option Addr) (c:Nat) (bs:List Int) (p:Int) (h:Rd w w R A c bs p) (hp:0≤p) (hp2:p≤bs.length) (G:Good bs) (hbc:bs.length≤c) :
 Calls Try.prog 84 #[.pointer (some ⟨R,0,none⟩)] w (Fin w R A c bs (bZh bs p) (fun x v _=>v=.string x)):=by
 have HC:=bZu w R A c bs p 0 127 h hp hp2 G.byte G.len (by omega) (by omega)
 unfold bZh
 cases hc:aZn bs p 0 127 with
 | error f =>
  rw [hc] at HC
  clear hc
  go_enter Try.func84,Try.ntmps84
  go_wp2_with ((with_reducible refine HC.mono ?_);intro e w' hf;obtain ⟨ps,rfl⟩:=hf.pan)
  exact ⟨rfl,hf.err rfl⟩
 | ok xq =>
  obtain ⟨x,q⟩:=xq
  obtain ⟨x1,x2,x3,x4⟩:=aZs hc
  rw [hc] at HC
  clear hc
  have hlen:=G.len
  by_cases hcut:bs.length - q<x
  ·
   have e1:(if bs.length - q<x then .error (201,(bs.length:Int)) else .ok (strOfNums ((bs.take (q+x).toNat).drop q.toNat),q+x):Except (Int × Int) (ByteArray × Int))=.error (201,bs.length):=by rw [if_pos hcut]
   dsimp only
   rw [e1]
   clear e1
   go_enter Try.func84,Try.ntmps84
   go_wp2_with ((with_reducible refine HC.mono ?_);rintro e w' ⟨v,rfl,rfl,hr⟩;obtain ⟨c0,c1,z1⟩:=hr.cells)
   go_region
   go_wp2_with ((with_reducible refine (aZ3 _ _ _).mono ?_);rintro e w2 ⟨rfl,rfl⟩)
   exact ⟨rfl,(Fin.fail hr rfl rfl).pdrew⟩
  ·
   have e1:(if bs.length - q<x then .error (201,(bs.length:Int)) else .ok (strOfNums ((bs.take (q+x).toNat).drop q.toNat),q+x):Except (Int × Int) (ByteArray × Int))=.ok (strOfNums ((bs.take (q+x).toNat).drop q.toNat),q+x):=by rw [if_neg hcut]
   dsimp only
   rw [e1]
   clear e1
   have hsl:=cut34 A bs.length c q (q+x) (by omega) (by omega) (by omega) hbc
   go_enter Try.func84,Try.ntmps84
   go_wp2_with ((with_reducible refine HC.mono ?_);rintro e w' ⟨v,rfl,rfl,hr⟩;obtain ⟨c0,c1,z1⟩:=hr.cells)
   go_region
   go_wp2_with (fail)
   have hr2:=hr.set (q+x)
   have hm:=Kd.C_mid (lo:=q.toNat) (hi:=(q+x).toNat) (hr2.row _ hr2.kept) (by omega) (by omega) hbc
   have hln:((bs.take (q+x).toNat).drop q.toNat).length=(q+x).toNat - q.toNat:=by rw [List.length_drop,List.length_take];omega
   rw [hln] at hm
   have hk1:(Kd.int .u8).sz=1:=rfl
   rw [hk1,Nat.mul_one] at hm
   generalize (if c=q.toNat then A else Option.map (fun x=>x.add q.toNat) A)=A' at hsl hm
   have H1:=Kd.C_string (P:=Try.prog) (c:=c - q.toNat) Try.underlying53 Try.underlying5 Try.underlying9 (Kd.C_drew (Kd.C_drew hm))
   clear hm hln hk1
   go_region
   go_wp2_with (fail)
   go_ret
   exact ⟨_,rfl,rfl,hr2.drew.drew⟩
section
variable (x y z:Addr) (w:World)
theorem inf123a:(Try.prog.info? 179).map (fun i=>i.size)=some 1:=by kernel_rfl
theorem inf123:∃ i,Try.prog.info? 179=some i∧i.size=1:=Option.map_eq_some_iff.1 inf123a
theorem ix124_0:(Instr.index 180 (.agg #[.pointer (some x),.pointer (some y),.pointer (some z)]) (.int .i64 0)).run Try.prog w=.ok (.pointer (some x)) w:=by
  obtain ⟨i,h1,h2⟩:=inf123
  simp [Instr.index,run_underlying Try.underlying180,asIntOf,part,sizeOf,typeInfo,h1,h2,isAgg,run_underlying Try.underlying179,go_sem]
theorem ix124_1:(Instr.index 180 (.agg #[.pointer (some x),.pointer (some y),.pointer (some z)]) (.int .i64 1)).run Try.prog w=.ok (.pointer (some y)) w:=by
  obtain ⟨i,h1,h2⟩:=inf123
  simp [Instr.index,run_underlying Try.underlying180,asIntOf,part,sizeOf,typeInfo,h1,h2,isAgg,run_underlying Try.underlying179,go_sem]
theorem ix124_2:(Instr.index 180 (.agg #[.pointer (some x),.pointer (some y),.pointer (some z)]) (.int .i64 2)).run Try.prog w=.ok (.pointer (some z)) w:=by
  obtain ⟨i,h1,h2⟩:=inf123
  simp [Instr.index,run_underlying Try.underlying180,asIntOf,part,sizeOf,typeInfo,h1,h2,isAgg,run_underlying Try.underlying179,go_sem]
end
attribute [local go_sem] ix124_0 ix124_1 ix124_2
def getN (bs:List Int) (b:Bool) (d q:Int):Except (Int × Int) (Int × Int):=if b=true then aZn bs q 0 65535 else .ok (d,q)
def aZK (bs:List Int) (u:Bool × Bool × Bool) (op:Int):Nat→Int→Int→Int→Int→Except (Int × Int) (S66 × Int)
  | 0,a,b,c,q=>match getN bs u.1 a q with | .error f=>.error f | .ok (a,q)=>match getN bs u.2.1 b q with | .error f=>.error f | .ok (b,q)=>match getN bs u.2.2 c q with | .error f=>.error f | .ok (c,q)=>.ok (⟨op,a,b,c⟩,q)
  | 1,a,b,c,q=>match getN bs u.2.1 b q with | .error f=>.error f | .ok (b,q)=>match getN bs u.2.2 c q with | .error f=>.error f | .ok (c,q)=>.ok (⟨op,a,b,c⟩,q)
  | 2,a,b,c,q=>match getN bs u.2.2 c q with | .error f=>.error f | .ok (c,q)=>.ok (⟨op,a,b,c⟩,q)
  | _,a,b,c,q=>.ok (⟨op,a,b,c⟩,q)
theorem gZw (bs:List Int) (b2 b3:Bool) (op a b c q:Int):aZK bs (true,b2,b3) op 0 a b c q=match aZn bs q 0 65535 with | .error f=>.error f | .ok (a,q)=>aZK bs (true,b2,b3) op 1 a b c q:=rfl
theorem gZv (bs:List Int) (b1 b3:Bool) (op a b c q:Int):aZK bs (b1,true,b3) op 1 a b c q=match aZn bs q 0 65535 with | .error f=>.error f | .ok (b,q)=>aZK bs (b1,true,b3) op 2 a b c q:=rfl
theorem gZu (bs:List Int) (b1 b2:Bool) (op a b c q:Int):aZK bs (b1,b2,true) op 2 a b c q=match aZn bs q 0 65535 with | .error f=>.error f | .ok (c,q)=>aZK bs (b1,b2,true) op 3 a b c q:=rfl
def aZ7 (bs:List Int) (p:Int):Except (Int × Int) (S66 × Int) :=
  if (bs.length:Int)≤p then .error (201,bs.length)
  else if bs.getD p.toNat 0<1∨36<bs.getD p.toNat 0 then .error (203,p)
  else aZK bs (bZG (bs.getD p.toNat 0)) (bs.getD p.toNat 0) 0 0 0 0 (p+1)
structure StI (w W:World) (R:Nat) (A:Option Addr) (cp:Nat) (bs:List Int) (q:Int) (X U Z:Nat) (op a b c:Int) (u:Bool × Bool × Bool):Prop where
  rd:Rd w W R A cp bs q
  x:W.heap[X]?=some (.cells #[.int .i64 op,.int .i64 a,.int .i64 b,.int .i64 c] 66 (0,0))
  u:W.heap[U]?=some (.cells #[.bool u.1,.bool u.2.1,.bool u.2.2] 119 (0,0))
  xR:w.heap.size≤X
  uR:w.heap.size≤U
  ne:X≠U
  z:W.heap[Z]?=some (.cells #[.int .i64 0,.int .i64 0,.int .i64 0,.int .i64 0] 66 (0,0))
  zR:w.heap.size≤Z
  nz:X≠Z
theorem StI.cells {w W:World} {R:Nat} {A:Option Addr} {cp:Nat} {bs:List Int} {q:Int} {X U Z:Nat} {op a b c:Int} {u:Bool × Bool × Bool} (h:StI w W R A cp bs q X U Z op a b c u) :
    W.cell? ⟨U,0,none⟩=some (.bool u.1)∧W.cell? ⟨U,1,none⟩=some (.bool u.2.1)∧W.cell? ⟨U,2,none⟩=some (.bool u.2.2) ∧
    W.cell? ⟨X,0,none⟩=some (.int .i64 op)∧W.cell? ⟨X,1,none⟩=some (.int .i64 a)∧W.cell? ⟨X,2,none⟩=some (.int .i64 b)∧W.cell? ⟨X,3,none⟩=some (.int .i64 c) ∧
    W.frozen? ⟨X,1,none⟩=false∧W.frozen? ⟨X,2,none⟩=false∧W.frozen? ⟨X,3,none⟩=false∧(W.cell? ⟨Z,0,none⟩=some (.int .i64 0)∧W.cell? ⟨Z,1,none⟩=some (.int .i64 0)∧W.cell? ⟨Z,2,none⟩=some (.int .i64 0)∧W.cell? ⟨Z,3,none⟩=some (.int .i64 0))∧(W.frozen? ⟨Z,0,none⟩=false∧W.frozen? ⟨Z,1,none⟩=false∧W.frozen? ⟨Z,2,none⟩=false∧W.frozen? ⟨Z,3,none⟩=false):=by
  refine ⟨?_,?_,?_,?_,?_,?_,?_,?_,?_,?_,⟨?_,?_,?_,?_⟩,?_,?_,?_,?_⟩ <;> simp [World.cell?,World.frozen?,h.x,h.u,h.z]
theorem StI.call {w W W2:World} {R:Nat} {A:Option Addr} {cp:Nat} {bs:List Int} {q q2:Int} {X U Z:Nat} {op a b c:Int} {u:Bool × Bool × Bool} (h:StI w W R A cp bs q X U Z op a b c u) (hR:R<w.heap.size) (k:Rd W W2 R A cp bs q2):StI w W2 R A cp bs q2 X U Z op a b c u :=
  ⟨h.rd.trans k,(k.kept.2 X (aZd h.x) (by have:=h.xR;omega)).trans h.x,(k.kept.2 U (aZd h.u) (by have:=h.uR;omega)).trans h.u,h.xR,h.uR,h.ne,(k.kept.2 Z (aZd h.z) (by have:=h.zR;omega)).trans h.z,h.zR,h.nz⟩
theorem StI.put1 {w W:World} {R:Nat} {A:Option Addr} {cp:Nat} {bs:List Int} {q:Int} {X U Z:Nat} {op a b c:Int} {u:Bool × Bool × Bool} (h:StI w W R A cp bs q X U Z op a b c u) (hR:R<w.heap.size) (n:Int) :
    StI w (W.setCell ⟨X,1,none⟩ (.int .i64 n)) R A cp bs q X U Z op n b c u∧StI w (W.setCell ⟨X,2,none⟩ (.int .i64 n)) R A cp bs q X U Z op a n c u∧StI w (W.setCell ⟨X,3,none⟩ (.int .i64 n)) R A cp bs q X U Z op a b n u:=by
  have hX:=h.xR
  have hn:=h.ne
  have hz:=h.zR
  have hnz:=h.nz
  refine ⟨⟨⟨h.rd.below.setCell (by simp;omega) _,h.rd.kept.setCell (.inr hX) _,?_,h.rd.row⟩,?_,?_,hX,h.uR,hn,?_,hz,hnz⟩,⟨⟨h.rd.below.setCell (by simp;omega) _,h.rd.kept.setCell (.inr hX) _,?_,h.rd.row⟩,?_,?_,hX,h.uR,hn,?_,hz,hnz⟩,⟨⟨h.rd.below.setCell (by simp;omega) _,h.rd.kept.setCell (.inr hX) _,?_,h.rd.row⟩,?_,?_,hX,h.uR,hn,?_,hz,hnz⟩⟩
  all_goals first
    | (rw [Below.heap_setCell _ _ _ _ (by simp;omega)];exact h.rd.blk)
    | (rw [Below.heap_setCell _ _ _ _ (by simp;omega)];exact h.u)
    | (rw [Below.heap_setCell _ _ _ _ (by simp;omega)];exact h.z)
    | simp [World.setCell,h.x,Array.getElem?_modify]
theorem Rd.step {w wr w2:World} {R:Nat} {A:Option Addr} {c:Nat} {bs:List Int} {p:Int} (h:Rd w wr R A c bs p) (hb:Below wr.heap.size wr w2):Rd w w2 R A c bs p :=
  ⟨h.below.trans (hb.mono (Nat.le_of_lt h.lt)),h.kept.below hb,(hb.block R h.lt).trans h.blk,h.row⟩
theorem i3_start {w w3:World} {R:Nat} {A:Option Addr} {cp:Nat} {bs:List Int} {p q op:Int} {u:Bool × Bool × Bool} (h:Rd w w R A cp bs p)
 (bel : Below ((((w.setCell ⟨R, 1, none⟩ (.int .i64 q)).alloc (.cells #[.int .i64 0, .int .i64 0, .int .i64 0, .int .i64 0] 66)).alloc (.cells #[.int .i64 op, .int .i64 0, .int .i64 0, .int .i64 0] 66)).drew.drew).heap.size
  (((w.setCell ⟨R,1,none⟩ (.int .i64 q)).alloc (.cells #[.int .i64 0,.int .i64 0,.int .i64 0,.int .i64 0] 66)).alloc (.cells #[.int .i64 op,.int .i64 0,.int .i64 0,.int .i64 0] 66)).drew.drew w3) :
 StI w (w3.alloc (.cells #[.bool u.1,.bool u.2.1,.bool u.2.2] 119)) R A cp bs q (w.heap.size+1) w3.heap.size w.heap.size op 0 0 0 u:=by
 have h4:=(((h.set q).alloc (.cells #[.int .i64 0,.int .i64 0,.int .i64 0,.int .i64 0] 66)).alloc (.cells #[.int .i64 op,.int .i64 0,.int .i64 0,.int .i64 0] 66)).drew.drew.step bel
 have hs:=bel.size
 have hs2:w.heap.size+2≤w3.heap.size:=by simpa [World.setCell] using hs
 refine ⟨h4.alloc _,?_,heap_alloc_new _ _,by omega,by omega,by omega,?_,by omega,by omega⟩
 ·
  rw [heap_alloc_old _ _ (by omega),bel.block _ (by simp [World.setCell])]
  have:=heap_alloc_new ((w.setCell ⟨R,1,none⟩ (.int .i64 q)).alloc (.cells #[.int .i64 0,.int .i64 0,.int .i64 0,.int .i64 0] 66)) (.cells #[.int .i64 op,.int .i64 0,.int .i64 0,.int .i64 0] 66)
  have e2:((w.setCell ⟨R,1,none⟩ (.int .i64 q)).alloc (.cells #[.int .i64 0,.int .i64 0,.int .i64 0,.int .i64 0] 66)).heap.size=w.heap.size+1:=by simp [World.setCell]
  rw [e2] at this
  exact this
 ·
  rw [heap_alloc_old _ _ (by omega),bel.block _ (by simp [World.setCell];omega)]
  have:=heap_alloc_new (w.setCell ⟨R,1,none⟩ (.int .i64 q)) (.cells #[.int .i64 0,.int .i64 0,.int .i64 0,.int .i64 0] 66)
  have e:(w.setCell ⟨R,1,none⟩ (.int .i64 q)).heap.size=w.heap.size:=by simp [World.setCell]
  rw [e] at this
  show (((w.setCell ⟨R,1,none⟩ (.int .i64 q)).alloc _).alloc _).heap[w.heap.size]?=_
  rw [heap_alloc_old _ _ (by simp [World.setCell])]
  exact this
theorem StI.done {w W:World} {R:Nat} {A:Option Addr} {cp:Nat} {bs:List Int} {q:Int} {X U Z:Nat} {op a b c:Int} {u:Bool × Bool × Bool} (h:StI w W R A cp bs q X U Z op a b c u) (hR:R<w.heap.size) (v0 v1 v2 v3:Value) :
 Rd w ((((W.setCell ⟨Z,0,none⟩ v0).setCell ⟨Z,1,none⟩ v1).setCell ⟨Z,2,none⟩ v2).setCell ⟨Z,3,none⟩ v3) R A cp bs q∧((((W.setCell ⟨Z,0,none⟩ v0).setCell ⟨Z,1,none⟩ v1).setCell ⟨Z,2,none⟩ v2).setCell ⟨Z,3,none⟩ v3).heap[Z]?=some (.cells #[v0,v1,v2,v3] 66 (0,0)):=by
 have hZ:=h.zR
 refine ⟨⟨(((h.rd.below.setCell (by simp;omega) _).setCell (by simp;omega) _).setCell (by simp;omega) _).setCell (by simp;omega) _,(((h.rd.kept.setCell (.inr hZ) _).setCell (.inr hZ) _).setCell (.inr hZ) _).setCell (.inr hZ) _,?_,h.rd.row⟩,?_⟩
 ·
  rw [Below.heap_setCell _ _ _ _ (by simp;omega),Below.heap_setCell _ _ _ _ (by simp;omega),Below.heap_setCell _ _ _ _ (by simp;omega),Below.heap_setCell _ _ _ _ (by simp;omega)]
  exact h.rd.blk
 · simp [World.setCell,h.z,Array.getElem?_modify]
theorem instr_any (w:World) (R:Nat) (A:Option Addr) (cp:Nat) (bs:List Int) (p:Int) (h:Rd w w R A cp bs p) (hp:0≤p) (hp2:p≤bs.length) (G:Good bs) :
 Calls Try.prog 91 #[.pointer (some ⟨R,0,none⟩)] w (Fin w R A cp bs (aZ7 bs p) (fun x v _=>v=.agg #[.int .i64 x.f0,.int .i64 x.f1,.int .i64 x.f2,.int .i64 x.f3])):=by
 obtain ⟨c0,c1,z1⟩:=h.cells
 have hlen:=G.len
 have hlt:=h.lt
 unfold aZ7
 by_cases hend:(bs.length:Int)≤p
 ·
  rw [if_pos hend]
  go_enter Try.func91,Try.ntmps91
  go_wp2_with (fail)
  go_region
  go_wp2_with ((with_reducible refine (aZ3 _ _ _).mono ?_);rintro e w' ⟨rfl,rfl⟩)
  exact ⟨rfl,(Fin.fail (h.alloc _) (by simp) rfl).pdrew⟩
 ·
  rw [if_neg hend]
  obtain ⟨ad,rfl,hcell⟩:=h.byte p hp (by omega)
  have hx:=G.byte (bs.getD p.toNat 0) (by rw [List.getD_eq_getElem?_getD,List.getElem?_eq_getElem (by omega)];simp)
  have h2:=(h.alloc (.cells #[.int .i64 0,.int .i64 0,.int .i64 0,.int .i64 0] 66)).alloc (.cells #[.int .i64 0,.int .i64 0,.int .i64 0,.int .i64 0] 66)
  obtain ⟨ad',e',hcell2⟩:=h2.byte p hp (by omega)
  obtain rfl:=Option.some.inj e'
  clear e'
  obtain ⟨ad',e',hcell1⟩:=(h.alloc (.cells #[.int .i64 0,.int .i64 0,.int .i64 0,.int .i64 0] 66)).byte p hp (by omega)
  obtain rfl:=Option.some.inj e'
  clear e'
  generalize bs.getD p.toNat 0=op at hcell hx hcell1 hcell2
  by_cases hop:op<1∨36<op
  ·
   rw [if_pos hop]
   go_enter Try.func91,Try.ntmps91
   go_wp2_with (fail)
   go_region
   go_wp2_with (fail)
   go_region
   go_wp2_with ((with_reducible refine (aZ3 _ _ _).mono ?_);rintro e w' ⟨rfl,rfl⟩)
   all_goals exact ⟨rfl,(Fin.fail ((h.alloc _).alloc _) (by simp) rfl).pdrew.pdrew⟩
  ·
   rw [if_neg hop]
   have hop':1≤op∧op≤36:=by omega
   generalize hu:bZG op=u
   have uw:∀ W,Calls Try.prog 51 #[.int .i64 op] W fun re w'=>re=.returned (.agg #[.bool u.1,.bool u.2.1,.bool u.2.2])∧Below W.heap.size W w':=fun W=>by
    have:=uses.walk op W
    rw [hu] at this
    exact this
   clear hu
   generalize hF:aZK bs u op 0 0 0 0 (p+1)=F
   have HF:=hid_ hF;clear hF
   go_enter Try.func91,Try.ntmps91
   go_wp2_with (fail)
   go_region
   go_wp2_with (fail)
   go_region
   go_wp2_with ((with_reducible refine (uw _).mono ?_);rintro e w3 ⟨rfl,bel⟩)
   have hS:=i3_start (u:=u) h bel
   clear bel hcell1 hcell2 hcell c0 c1 z1 uw h2
   generalize w3.heap.size=U at hS ⊢
   generalize w3.alloc (.cells #[.bool u.1,.bool u.2.1,.bool u.2.2] 119)=w4 at hS ⊢
   go_loopw [62] (fun i wr=>∃ (k:Nat) (a b c q:Int),k≤3∧i=.int .i64 k∧0≤q∧q≤bs.length∧StI w wr R (some ad) cp bs q (w.heap.size+1) U w.heap.size op a b c u∧aZK bs u op k a b c q=F) (fun i _=>3 - (intOf i).toNat)
   case atStart=>exact ⟨0,0,0,0,p+1,by omega,rfl,by omega,by omega,hS,HF.out⟩
   case round =>
    clear hS HF
    obtain ⟨k,a,b,c,q,hk,rfl,hq,hq2,hS,he⟩:=hrel
    have HE:=hid_ he;clear he
    obtain ⟨b1,b2,b3⟩:=u
    obtain ⟨e0,e1,e2,x0,x1,x2,x3,f1,f2,f3,⟨y0,y1,y2,y3⟩,g0,g1,g2,g3⟩:=hS.cells
    have HC:=bZu _ R (some ad) cp bs q 0 65535 hS.rd.self hq hq2 G.byte G.len (by omega) (by omega)
    have hk':k=0∨k=1∨k=2∨k=3:=by omega
    rcases hk' with rfl|rfl|rfl|rfl
    ·
     cases b1
     ·
      have HE1:aZK bs (false,b2,b3) op 1 a b c q=F:=HE.out
      have HE2:=hid_ HE1
      clear HE HE1 HC
      go_wp2_with (fail)
      go_roundw
      case rel=>exact ⟨1,a,b,c,q,by omega,rfl,hq,hq2,hS,HE2.out⟩
      case measure=>simp [intOf]
     ·
      cases hc:aZn bs q 0 65535 with
      | error f =>
       rw [hc] at HC
       have HE1:=HE.out
       rw [gZw,hc] at HE1
       have HE2:Hid (F=Except.error f):=hid_ HE1.symm
       clear HE HE1 hc
       go_wp2_with ((with_reducible refine HC.mono ?_);intro e w' hf;obtain ⟨ps,rfl⟩:=hf.pan)
       exact ⟨rfl,Fin.trans hS.rd (hf.err HE2.out)⟩
      | ok xq =>
       obtain ⟨x,q2⟩:=xq
       obtain ⟨n1,n2,n3,n4⟩:=aZs hc
       rw [hc] at HC
       have HE1:=HE.out
       rw [gZw,hc] at HE1
       have HE2:Hid (aZK bs (true,b2,b3) op 1 x b c q2=F):=hid_ HE1
       clear HE HE1 hc e0 e1 e2 x0 x1 x2 x3 f1 f2 f3 y0 y1 y2 y3 g0 g1 g2 g3
       obtain ⟨e0,e1,e2,x0,x1,x2,x3,f1,f2,f3,_⟩:=hS.cells
       go_wp2_with ((with_reducible refine HC.mono ?_);rintro e w' ⟨v,rfl,rfl,hr⟩;have hS2:=hS.call hlt hr;clear e0 e1 e2 x0 x1 x2 x3 f1 f2 f3;obtain ⟨e0,e1,e2,x0,x1,x2,x3,f1,f2,f3,_⟩:=hS2.cells)
       go_roundw
       case rel=>exact ⟨1,x,b,c,q2,by omega,rfl,by omega,n4,(hS2.put1 hlt x).1,HE2.out⟩
       case measure=>simp [intOf]
    ·
     cases b2
     ·
      have HE1:aZK bs (b1,false,b3) op 2 a b c q=F:=HE.out
      have HE2:=hid_ HE1
      clear HE HE1 HC
      go_wp2_with (fail)
      go_roundw
      case rel=>exact ⟨2,a,b,c,q,by omega,rfl,hq,hq2,hS,HE2.out⟩
      case measure=>simp [intOf]
     ·
      cases hc:aZn bs q 0 65535 with
      | error f =>
       rw [hc] at HC
       have HE1:=HE.out
       rw [gZv,hc] at HE1
       have HE2:Hid (F=Except.error f):=hid_ HE1.symm
       clear HE HE1 hc
       go_wp2_with ((with_reducible refine HC.mono ?_);intro e w' hf;obtain ⟨ps,rfl⟩:=hf.pan)
       exact ⟨rfl,Fin.trans hS.rd (hf.err HE2.out)⟩
      | ok xq =>
       obtain ⟨x,q2⟩:=xq
       obtain ⟨n1,n2,n3,n4⟩:=aZs hc
       rw [hc] at HC
       have HE1:=HE.out
       rw [gZv,hc] at HE1
       have HE2:Hid (aZK bs (b1,true,b3) op 2 a x c q2=F):=hid_ HE1
       clear HE HE1 hc e0 e1 e2 x0 x1 x2 x3 f1 f2 f3 y0 y1 y2 y3 g0 g1 g2 g3
       obtain ⟨e0,e1,e2,x0,x1,x2,x3,f1,f2,f3,_⟩:=hS.cells
       go_wp2_with ((with_reducible refine HC.mono ?_);rintro e w' ⟨v,rfl,rfl,hr⟩;have hS2:=hS.call hlt hr;clear e0 e1 e2 x0 x1 x2 x3 f1 f2 f3;obtain ⟨e0,e1,e2,x0,x1,x2,x3,f1,f2,f3,_⟩:=hS2.cells)
       go_roundw
       case rel=>exact ⟨2,a,x,c,q2,by omega,rfl,by omega,n4,(hS2.put1 hlt x).2.1,HE2.out⟩
       case measure=>simp [intOf]
    ·
     cases b3
     ·
      have HE1:aZK bs (b1,b2,false) op 3 a b c q=F:=HE.out
      have HE2:=hid_ HE1
      clear HE HE1 HC
      go_wp2_with (fail)
      go_roundw
      case rel=>exact ⟨3,a,b,c,q,by omega,rfl,hq,hq2,hS,HE2.out⟩
      case measure=>simp [intOf]
     ·
      cases hc:aZn bs q 0 65535 with
      | error f =>
       rw [hc] at HC
       have HE1:=HE.out
       rw [gZu,hc] at HE1
       have HE2:Hid (F=Except.error f):=hid_ HE1.symm
       clear HE HE1 hc
       go_wp2_with ((with_reducible refine HC.mono ?_);intro e w' hf;obtain ⟨ps,rfl⟩:=hf.pan)
       exact ⟨rfl,Fin.trans hS.rd (hf.err HE2.out)⟩
      | ok xq =>
       obtain ⟨x,q2⟩:=xq
       obtain ⟨n1,n2,n3,n4⟩:=aZs hc
       rw [hc] at HC
       have HE1:=HE.out
       rw [gZu,hc] at HE1
       have HE2:Hid (aZK bs (b1,b2,true) op 3 a b x q2=F):=hid_ HE1
       clear HE HE1 hc e0 e1 e2 x0 x1 x2 x3 f1 f2 f3 y0 y1 y2 y3 g0 g1 g2 g3
       obtain ⟨e0,e1,e2,x0,x1,x2,x3,f1,f2,f3,_⟩:=hS.cells
       go_wp2_with ((with_reducible refine HC.mono ?_);rintro e w' ⟨v,rfl,rfl,hr⟩;have hS2:=hS.call hlt hr;clear e0 e1 e2 x0 x1 x2 x3 f1 f2 f3;obtain ⟨e0,e1,e2,x0,x1,x2,x3,f1,f2,f3,_⟩:=hS2.cells)
       go_roundw
       case rel=>exact ⟨3,a,b,x,q2,by omega,rfl,by omega,n4,(hS2.put1 hlt x).2.2,HE2.out⟩
       case measure=>simp [intOf]
    ·
     have HE1:Except.ok ((⟨op,a,b,c⟩:S66),q)=F:=HE.out
     clear HE HC
     subst HE1
     go_wp2_with (fail)
     have hd:=hS.done hlt (.int .i64 op) (.int .i64 a) (.int .i64 b) (.int .i64 c)
     exact bodyPost_ret (results_cell_row rfl _ _ w.heap.size _ _ _ _ rfl hd.2 Try.underlying66 rfl rfl) rfl ⟨_,rfl,rfl,hd.1⟩
end Go.Proofs.Ytbnplhmmbnmagaa.D
namespace Go.Proofs.Ytbnplhmmbnmagaa.D
open Go.RowKit Go.Proofs.YtbnplhmmbnmagaaW.PrintWords Go.Proofs.YtbnplhmmbnmagaaW.PrintLast Go.Proofs.YtbnplhmmbnmagaaW.PrintMore Go.Proofs.Ytbnplhmmbnmagaa.All
def aZr {α:Type} (z:α) (one:Int→Except (Int × Int) (α × Int)) (cmp:α→α→Int):Nat→Int→List α→Except (Int × Int) (List α × Int)
  | 0,q,acc=>.ok (acc,q)
  | d+1,q,acc =>
    match one q with
    | .error f=>.error f
    | .ok (x,q2)=>if 0<acc.length∧0≤cmp (acc.getD (acc.length - 1) z) x then .error (204,q) else aZr z one cmp d q2 (acc++[x])
def aZQ {α:Type} (z:α) (one:Int→Except (Int × Int) (α × Int)) (cmp:α→α→Int) (bs:List Int) (p lo hi:Int):Except (Int × Int) (List α × Int) :=
  match aZn bs p lo hi with
  | .error f=>.error f
  | .ok (n,q)=>aZr z one cmp n.toNat q []
def dZs {α:Type} (bs:List Int) (one:Int→Except (Int × Int) (α × Int)):Prop:=∀ p x q,0≤p→one p=.ok (x,q)→p<q∧q≤bs.length
theorem Rd.grown {w wr w2:World} {R:Nat} {A:Option Addr} {c:Nat} {bs:List Int} {p:Int} {row:Option Nat} (h:Rd w wr R A c bs p) (hg:wr.grownBy w2 row) (hr:∀ k,row=some k→w.heap.size≤k) (hR:R<w.heap.size):Rd w w2 R A c bs p :=
  ⟨h.below.grown hg (Nat.le_of_lt h.lt) (fun k e=>by have:=hr k e;omega),Kept.of_grown hg h.kept (fun k e=>.inr (hr k e)),(hg.block R h.lt (fun e=>by have:=hr R e.symm;omega)).trans h.blk,h.row⟩
theorem bZw {α:Type} {d:Kd α} {e:Nat} {w wr w1:World} {R:Nat} {A:Option Addr} {c:Nat} {bs:List Int} {q:Int} {v:Value} {xs:List α} (h:d.R e wr w.heap.size (fun _=>True) v xs) (hR:R<w.heap.size) (hr:Rd wr w1 R A c bs q):d.R e w1 w.heap.size (fun _=>True) v xs :=
  Kd.R_mono (Kd.R_kept (Kd.R_bound h) hr.kept (fun k hk e=>by have:=hk.2.1;omega)) (fun _ _=>trivial)
theorem list73 (w:World) (R:Nat) (A:Option Addr) (c:Nat) (bs:List Int) (p lo hi:Int) (h:Rd w w R A c bs p) (hp:0≤p) (hp2:p≤bs.length) (G:Good bs) (hlo:0≤lo) (hlo2:lo≤1000) (hhi:hi≤32768) (hhi0:0≤hi) (one:Int→Except (Int × Int) (ByteArray × Int)) (cmp:ByteArray→ByteArray→Int) (hah:dZs bs one)
 (hone:∀ (wr:World) (q:Int),Rd w wr R A c bs q→0≤q→q≤bs.length→Calls Try.prog 84 #[.pointer (some ⟨R,0,none⟩)] wr (Fin wr R A c bs (one q) (fun x v _=>v=.string x)))
 (hcmp:∀ (a b:ByteArray) (w:World),Calls Try.prog 71 #[.string a,.string b] w fun e w'=>e=.returned (.int .i64 (cmp a b))∧Drawn0 w w') :
 Calls Try.prog 83 #[.pointer (some ⟨R,0,none⟩),.int .i64 lo,.int .i64 hi,.func (.func 84) #[.pointer (some ⟨R,0,none⟩)] #[],.func (.func 71) #[] #[]] w (Fin w R A c bs (aZQ ByteArray.empty one cmp bs p lo hi) (fun x v w'=>Kd.string.R 9 w' w.heap.size (fun _=>True) v x)):=by
 have hlen:=G.len
 have HC:=bZu w R A c bs p lo hi h hp hp2 G.byte G.len (by omega) (by omega)
 unfold aZQ
 cases hc:aZn bs p lo hi with
 | error f =>
  rw [hc] at HC
  clear hc
  go_enter Try.func83,Try.ntmps83
  go_wp2_with ((with_reducible refine HC.mono ?_);intro e w' hf;obtain ⟨ps,rfl⟩:=hf.pan)
  exact ⟨rfl,hf.err rfl⟩
 | ok xq =>
  obtain ⟨n,q0⟩:=xq
  obtain ⟨x1,x2,x3,x4⟩:=aZs hc
  rw [hc] at HC
  clear hc
  dsimp only
  obtain ⟨N,rfl⟩:=Int.eq_ofNat_of_zero_le (show 0≤n by omega)
  rw [Int.toNat_natCast]
  generalize hF:aZr ByteArray.empty one cmp N q0 []=F
  have HF:=hid_ hF;clear hF
  go_enter Try.func83,Try.ntmps83
  go_wp2_with ((with_reducible refine HC.mono ?_);rintro e w' ⟨v,rfl,rfl,hr⟩)
  have hRlt:=h.lt
  go_loopw [12,24] (fun out i wr=>∃ (k:Nat) (q:Int) (acc:List ByteArray),k≤N∧i=.int .i64 k∧acc.length=k∧0≤q∧q≤bs.length∧Rd w wr R A c bs q∧Kd.string.R 9 wr w.heap.size (fun _=>True) out acc∧aZr ByteArray.empty one cmp (N - k) q acc=F) (fun _ i _=>N - (intOf i).toNat)
  case atStart=>exact ⟨0,q0,[],by omega,rfl,rfl,by omega,by omega,hr,Kd.R_nil _ _ _ _ _,HF.out⟩
  case round =>
   clear HC
   obtain ⟨k,q,acc,hk,rfl,hak,hq,hq2,hr2,hrow,he⟩:=hrel
   have HE:=hid_ he;clear he
   have HAK:=hid_ hak;clear hak
   obtain ⟨c0,c1,z1⟩:=hr2.cells
   by_cases hlt:k<N
   ·
    have HO:=hone wr q hr2 hq hq2
    have hstep:aZr ByteArray.empty one cmp (N - k) q acc=aZr ByteArray.empty one cmp ((N - k - 1)+1) q acc:=by congr 1;omega
    cases ho:one q with
    | error f =>
     rw [ho] at HO
     rw [hstep] at HE
     have he:=HE.out
     unfold aZr at he
     rw [ho] at he
     have HE2:=hid_ he.symm
     clear HE he hstep ho
     go_wp2_with ((with_reducible refine HO.mono ?_);intro e w' hf;obtain ⟨ps,rfl⟩:=hf.pan)
     exact ⟨rfl,Fin.trans hr2 (hf.err HE2.out)⟩
    | ok xq =>
     obtain ⟨x,q2⟩:=xq
     obtain ⟨hqq,hqq2⟩:=hah q x q2 hq ho
     rw [ho] at HO
     rw [hstep] at HE
     have he:=HE.out
     unfold aZr at he
     rw [ho] at he
     dsimp only at he
     have HE2:=hid_ he
     clear HE he hstep ho
     have hold:∀ g,u12.ownBlock=some g→g<wr.heap.size:=fun g hg=>((Kd.R_bound hrow).1 g hg).2.2.1
     by_cases hk0:k=0
     ·
      subst hk0
      have HE3:=HE2.out
      rw [if_neg (fun h=>by have:=h.1;rw [HAK.out] at this;omega)] at HE3
      have HE4:=hid_ HE3
      clear HE2 HE3
      go_wp2_with (first
       | ((with_reducible refine HO.mono ?_);rintro e w1 ⟨v,rfl,rfl,hr3⟩;have hrow3:=bZw hrow hRlt hr3)
       | ((with_reducible refine aZh (b:=.append) (xs:=#[.tmp 48,.tmp 50]) rfl ?_);at_builtin;refine Kd.R_append Kd.string (w0:=w1) w.heap.size rfl (.tmp 48) (.tmp 50) 22 9 (.string ⟨#[]⟩) 16 rfl Try.underlying22 info9 rfl (by decide) (by omega) _ acc x [.string x] (fun _=>True) (fun _=>False) rfl rfl rfl (fun _ hk=>hk.elim) (fun _ _=>trivial) hrow3 (Below.refl _ _) (Nat.le_trans hr2.kept.1 hr3.kept.1) (by rw [HAK.out];omega) ?_;intro out2 w3 hrow4 hb4 hg4 _))
      have hr4:=(hr2.trans hr3).grown hg4 (Kd.R_base hrow3) hRlt
      go_roundw
      case rel=>exact ⟨1,q2,acc++[x],by omega,rfl,by simp [HAK.out],by omega,hqq2,hr4,hrow4,HE4.out⟩
      case measure=>simp [intOf];omega
     ·
      obtain ⟨Ao,co,rfl,hco,hread⟩:=Kd.R_reads hrow
      have hk1:((k:Int) - 1).toNat=k - 1:=by omega
      have HE3:=HE2.out
      rw [HAK.out] at HE3
      have HE4:=hid_ HE3
      clear HE2 HE3 hread
      generalize hy:acc.getD (k - 1) ByteArray.empty=y at HE4
      have HY:=hid_ hy;clear hy
      have hcells:∀ w1,Kd.string.R 9 w1 w.heap.size (fun _=>True) (.slice Ao acc.length co) acc→∃ ad,Ao=some ad∧w1.cell? (ad.add (k - 1))=some (.string y):=by
       intro w1 hrow3
       obtain ⟨ad,cs,e,hcl,hck,hcc⟩:=Kd.C_get (Kd.R_reads' hrow3).2.2 ByteArray.empty ((k:Int) - 1) (by omega) (by rw [HAK.out];omega)
       rw [hk1,HY.out] at hck
       have hs:Kd.string.sz=1:=rfl
       have h2:=hcc 0 _ (by rw [hck];rfl)
       rw [hs,Nat.mul_one,Nat.add_zero,hk1] at h2
       exact ⟨ad,e,h2⟩
      have hb1:(k:Int) - 1<acc.length:=by rw [HAK.out];omega
      have hb0:0≤(k:Int) - 1:=by omega
      clear hk1
      by_cases hge:0≤cmp y x
      ·
       have he:Except.error (204,q)=F:=by rw [←HE4.out,if_pos ⟨by omega,hge⟩]
       have HE5:=hid_ he.symm
       clear HE4 he
       go_wp2_with (first
        | ((with_reducible refine HO.mono ?_);rintro e w1 ⟨v,rfl,rfl,hr3⟩;have hrow3:=bZw hrow hRlt hr3;obtain ⟨ad,rfl,hcell⟩:=hcells w1 hrow3)
        | ((with_reducible refine (hcmp y x _).mono ?_);rintro e w2 ⟨rfl,⟨nd,rfl⟩⟩)
        | ((with_reducible refine (aZ3 _ _ _).mono ?_);rintro e w2 ⟨rfl,rfl⟩))
       exact ⟨rfl,Fin.fail ((hr2.trans hr3).drewN nd) rfl HE5.out⟩
      ·
       have he:=HE4.out
       rw [if_neg (fun h=>hge h.2)] at he
       have HE5:=hid_ he
       clear HE4 he
       go_wp2_with (first
        | ((with_reducible refine HO.mono ?_);rintro e w1 ⟨v,rfl,rfl,hr3⟩;have hrow3:=bZw hrow hRlt hr3;obtain ⟨ad,rfl,hcell⟩:=hcells w1 hrow3)
        | ((with_reducible refine (hcmp y x _).mono ?_);rintro e w2 ⟨rfl,⟨nd,rfl⟩⟩)
        | ((with_reducible refine aZh (b:=.append) (xs:=#[.tmp 48,.tmp 50]) rfl ?_);at_builtin;refine Kd.R_append Kd.string (w0:=w1.drewN nd) w.heap.size rfl (.tmp 48) (.tmp 50) 22 9 (.string ⟨#[]⟩) 16 rfl Try.underlying22 info9 rfl (by decide) (by omega) _ acc x [.string x] (fun _=>True) (fun _=>False) rfl rfl rfl (fun _ hk=>hk.elim) (fun _ _=>trivial) (Kd.R_drewN hrow3 nd) (Below.refl _ _) (Nat.le_trans hr2.kept.1 hr3.kept.1) (by rw [HAK.out];omega) ?_;intro out2 w3 hrow4 hb4 hg4 _))
       have hr4:=((hr2.trans hr3).drewN nd).grown hg4 (Kd.R_base hrow3) hRlt
       go_roundw
       case rel=>exact ⟨k+1,q2,acc++[x],by omega,by go_num,by simp [HAK.out],by omega,hqq2,hr4,hrow4,by rw [show N - (k+1)=N - k - 1 from by omega];exact HE5.out⟩
       case measure=>simp [intOf];omega
   ·
    obtain rfl:k=N:=by omega
    have hd:k - k=0:=by omega
    rw [hd] at HE
    have he:Except.ok (acc,q)=F:=HE.out
    clear HE hd
    subst he
    go_wp2_with (fail)
    go_ret
    exact ⟨_,rfl,hrow,hr2⟩
theorem list75 (w:World) (R:Nat) (A:Option Addr) (c:Nat) (bs:List Int) (p lo hi:Int) (h:Rd w w R A c bs p) (hp:0≤p) (hp2:p≤bs.length) (G:Good bs) (hlo:0≤lo) (hlo2:lo≤1000) (hhi:hi≤32768) (hhi0:0≤hi) (one:Int→Except (Int × Int) (Int × Int)) (cmp:Int→Int→Int) (hah:dZs bs one)
 (hone:∀ (wr:World) (q:Int),Rd w wr R A c bs q→0≤q→q≤bs.length→Calls Try.prog 86 #[.pointer (some ⟨R,0,none⟩)] wr (Fin wr R A c bs (one q) (fun x v _=>v=.int .i64 x)))
 (hcmp:∀ (a b:Int) (w:World),Calls Try.prog 75 #[.int .i64 a,.int .i64 b] w fun e w'=>e=.returned (.int .i64 (cmp a b))∧Drawn0 w w') :
 Calls Try.prog 85 #[.pointer (some ⟨R,0,none⟩),.int .i64 lo,.int .i64 hi,.func (.func 86) #[.pointer (some ⟨R,0,none⟩)] #[],.func (.func 75) #[] #[]] w (Fin w R A c bs (aZQ 0 one cmp bs p lo hi) (fun x v w'=>(Kd.int .i64).R 3 w' w.heap.size (fun _=>True) v x)):=by
 have hlen:=G.len
 have HC:=bZu w R A c bs p lo hi h hp hp2 G.byte G.len (by omega) (by omega)
 unfold aZQ
 cases hc:aZn bs p lo hi with
 | error f =>
  rw [hc] at HC
  clear hc
  go_enter Try.func85,Try.ntmps85
  go_wp2_with ((with_reducible refine HC.mono ?_);intro e w' hf;obtain ⟨ps,rfl⟩:=hf.pan)
  exact ⟨rfl,hf.err rfl⟩
 | ok xq =>
  obtain ⟨n,q0⟩:=xq
  obtain ⟨x1,x2,x3,x4⟩:=aZs hc
  rw [hc] at HC
  clear hc
  dsimp only
  obtain ⟨N,rfl⟩:=Int.eq_ofNat_of_zero_le (show 0≤n by omega)
  rw [Int.toNat_natCast]
  generalize hF:aZr 0 one cmp N q0 []=F
  have HF:=hid_ hF;clear hF
  go_enter Try.func85,Try.ntmps85
  go_wp2_with ((with_reducible refine HC.mono ?_);rintro e w' ⟨v,rfl,rfl,hr⟩)
  have hRlt:=h.lt
  go_loopw [12,24] (fun out i wr=>∃ (k:Nat) (q:Int) (acc:List Int),k≤N∧i=.int .i64 k∧acc.length=k∧0≤q∧q≤bs.length∧Rd w wr R A c bs q∧(Kd.int .i64).R 3 wr w.heap.size (fun _=>True) out acc∧aZr 0 one cmp (N - k) q acc=F) (fun _ i _=>N - (intOf i).toNat)
  case atStart=>exact ⟨0,q0,[],by omega,rfl,rfl,by omega,by omega,hr,Kd.R_nil _ _ _ _ _,HF.out⟩
  case round =>
   clear HC
   obtain ⟨k,q,acc,hk,rfl,hak,hq,hq2,hr2,hrow,he⟩:=hrel
   have HE:=hid_ he;clear he
   have HAK:=hid_ hak;clear hak
   obtain ⟨c0,c1,z1⟩:=hr2.cells
   by_cases hlt:k<N
   ·
    have HO:=hone wr q hr2 hq hq2
    have hstep:aZr 0 one cmp (N - k) q acc=aZr 0 one cmp ((N - k - 1)+1) q acc:=by congr 1;omega
    cases ho:one q with
    | error f =>
     rw [ho] at HO
     rw [hstep] at HE
     have he:=HE.out
     unfold aZr at he
     rw [ho] at he
     have HE2:=hid_ he.symm
     clear HE he hstep ho
     go_wp2_with ((with_reducible refine HO.mono ?_);intro e w' hf;obtain ⟨ps,rfl⟩:=hf.pan)
     exact ⟨rfl,Fin.trans hr2 (hf.err HE2.out)⟩
    | ok xq =>
     obtain ⟨x,q2⟩:=xq
     obtain ⟨hqq,hqq2⟩:=hah q x q2 hq ho
     rw [ho] at HO
     rw [hstep] at HE
     have he:=HE.out
     unfold aZr at he
     rw [ho] at he
     dsimp only at he
     have HE2:=hid_ he
     clear HE he hstep ho
     have hold:∀ g,u12.ownBlock=some g→g<wr.heap.size:=fun g hg=>((Kd.R_bound hrow).1 g hg).2.2.1
     by_cases hk0:k=0
     ·
      subst hk0
      have HE3:=HE2.out
      rw [if_neg (fun h=>by have:=h.1;rw [HAK.out] at this;omega)] at HE3
      have HE4:=hid_ HE3
      clear HE2 HE3
      go_wp2_with (first
       | ((with_reducible refine HO.mono ?_);rintro e w1 ⟨v,rfl,rfl,hr3⟩;have hrow3:=bZw hrow hRlt hr3)
       | ((with_reducible refine aZh (b:=.append) (xs:=#[.tmp 48,.tmp 50]) rfl ?_);at_builtin;refine Kd.R_append (Kd.int .i64) (w0:=w1) w.heap.size rfl (.tmp 48) (.tmp 50) 23 3 (.int .i64 0) 8 rfl Try.underlying23 info3 rfl (by decide) (by omega) _ acc x [.int .i64 x] (fun _=>True) (fun _=>False) rfl rfl rfl (fun _ hk=>hk.elim) (fun _ _=>trivial) hrow3 (Below.refl _ _) (Nat.le_trans hr2.kept.1 hr3.kept.1) (by rw [HAK.out];omega) ?_;intro out2 w3 hrow4 hb4 hg4 _))
      have hr4:=(hr2.trans hr3).grown hg4 (Kd.R_base hrow3) hRlt
      go_roundw
      case rel=>exact ⟨1,q2,acc++[x],by omega,rfl,by simp [HAK.out],by omega,hqq2,hr4,hrow4,HE4.out⟩
      case measure=>simp [intOf];omega
     ·
      obtain ⟨Ao,co,rfl,hco,hread⟩:=Kd.R_reads hrow
      have hk1:((k:Int) - 1).toNat=k - 1:=by omega
      have HE3:=HE2.out
      rw [HAK.out] at HE3
      have HE4:=hid_ HE3
      clear HE2 HE3 hread
      generalize hy:acc.getD (k - 1) 0=y at HE4
      have HY:=hid_ hy;clear hy
      have hcells:∀ w1,(Kd.int .i64).R 3 w1 w.heap.size (fun _=>True) (.slice Ao acc.length co) acc→∃ ad,Ao=some ad∧w1.cell? (ad.add (k - 1))=some (.int .i64 y):=by
       intro w1 hrow3
       obtain ⟨ad,cs,e,hcl,hck,hcc⟩:=Kd.C_get (Kd.R_reads' hrow3).2.2 0 ((k:Int) - 1) (by omega) (by rw [HAK.out];omega)
       rw [hk1,HY.out] at hck
       have hs:(Kd.int .i64).sz=1:=rfl
       have h2:=hcc 0 _ (by rw [hck];rfl)
       rw [hs,Nat.mul_one,Nat.add_zero,hk1] at h2
       exact ⟨ad,e,h2⟩
      have hb1:(k:Int) - 1<acc.length:=by rw [HAK.out];omega
      have hb0:0≤(k:Int) - 1:=by omega
      clear hk1
      by_cases hge:0≤cmp y x
      ·
       have he:Except.error (204,q)=F:=by rw [←HE4.out,if_pos ⟨by omega,hge⟩]
       have HE5:=hid_ he.symm
       clear HE4 he
       go_wp2_with (first
        | ((with_reducible refine HO.mono ?_);rintro e w1 ⟨v,rfl,rfl,hr3⟩;have hrow3:=bZw hrow hRlt hr3;obtain ⟨ad,rfl,hcell⟩:=hcells w1 hrow3)
        | ((with_reducible refine (hcmp y x _).mono ?_);rintro e w2 ⟨rfl,⟨nd,rfl⟩⟩)
        | ((with_reducible refine (aZ3 _ _ _).mono ?_);rintro e w2 ⟨rfl,rfl⟩))
       exact ⟨rfl,Fin.fail ((hr2.trans hr3).drewN nd) rfl HE5.out⟩
      ·
       have he:=HE4.out
       rw [if_neg (fun h=>hge h.2)] at he
       have HE5:=hid_ he
       clear HE4 he
       go_wp2_with (first
        | ((with_reducible refine HO.mono ?_);rintro e w1 ⟨v,rfl,rfl,hr3⟩;have hrow3:=bZw hrow hRlt hr3;obtain ⟨ad,rfl,hcell⟩:=hcells w1 hrow3)
        | ((with_reducible refine (hcmp y x _).mono ?_);rintro e w2 ⟨rfl,⟨nd,rfl⟩⟩)
        | ((with_reducible refine aZh (b:=.append) (xs:=#[.tmp 48,.tmp 50]) rfl ?_);at_builtin;refine Kd.R_append (Kd.int .i64) (w0:=w1.drewN nd) w.heap.size rfl (.tmp 48) (.tmp 50) 23 3 (.int .i64 0) 8 rfl Try.underlying23 info3 rfl (by decide) (by omega) _ acc x [.int .i64 x] (fun _=>True) (fun _=>False) rfl rfl rfl (fun _ hk=>hk.elim) (fun _ _=>trivial) (Kd.R_drewN hrow3 nd) (Below.refl _ _) (Nat.le_trans hr2.kept.1 hr3.kept.1) (by rw [HAK.out];omega) ?_;intro out2 w3 hrow4 hb4 hg4 _))
       have hr4:=((hr2.trans hr3).drewN nd).grown hg4 (Kd.R_base hrow3) hRlt
       go_roundw
       case rel=>exact ⟨k+1,q2,acc++[x],by omega,by go_num,by simp [HAK.out],by omega,hqq2,hr4,hrow4,by rw [show N - (k+1)=N - k - 1 from by omega];exact HE5.out⟩
       case measure=>simp [intOf];omega
   ·
    obtain rfl:k=N:=by omega
    have hd:k - k=0:=by omega
    rw [hd] at HE
    have he:Except.ok (acc,q)=F:=HE.out
    clear HE hd
    subst he
    go_wp2_with (fail)
    go_ret
    exact ⟨_,rfl,hrow,hr2⟩
theorem list77 (w:World) (R:Nat) (A:Option Addr) (c:Nat) (bs:List Int) (p lo hi:Int) (h:Rd w w R A c bs p) (hp:0≤p) (hp2:p≤bs.length) (G:Good bs) (hlo:0≤lo) (hlo2:lo≤1000) (hhi:hi≤32768) (hhi0:0≤hi) (one:Int→Except (Int × Int) (List ByteArray × Int)) (cmp:List ByteArray→List ByteArray→Int) (hah:dZs bs one) (V:Addr)
 (hone:∀ (wr:World) (q:Int),Rd w wr R A c bs q→0≤q→q≤bs.length→Calls Try.prog 88 #[.pointer (some V)] wr (Fin wr R A c bs (one q) (fun x v w'=>Kd.string.R 9 w' wr.heap.size (fun _=>True) v x)))
 (hcmp:∀ (A0:Option Addr) (c0:Nat) (l0:List ByteArray) (A1:Option Addr) (c1:Nat) (l1:List ByteArray) (w:World),Kd.string.C w A0 l0.length l0→l0.length≤c0→Kd.string.C w A1 l1.length l1→l1.length≤c1→Calls Try.prog 78 #[.slice A0 l0.length c0,.slice A1 l1.length c1] w fun e w'=>e=.returned (.int .i64 (cmp l0 l1))∧Drawn0 w w') :
 Calls Try.prog 87 #[.pointer (some ⟨R,0,none⟩),.int .i64 lo,.int .i64 hi,.func (.func 88) #[] #[.pointer (some V)],.func (.func 78) #[] #[]] w (Fin w R A c bs (aZQ [] one cmp bs p lo hi) (fun x v w'=>(Kd.slice 9 Kd.string).R 22 w' w.heap.size (fun _=>True) v x)):=by
 have hlen:=G.len
 have HC:=bZu w R A c bs p lo hi h hp hp2 G.byte G.len (by omega) (by omega)
 unfold aZQ
 cases hc:aZn bs p lo hi with
 | error f =>
  rw [hc] at HC
  clear hc
  go_enter Try.func87,Try.ntmps87
  go_wp2_with ((with_reducible refine HC.mono ?_);intro e w' hf;obtain ⟨ps,rfl⟩:=hf.pan)
  exact ⟨rfl,hf.err rfl⟩
 | ok xq =>
  obtain ⟨n,q0⟩:=xq
  obtain ⟨x1,x2,x3,x4⟩:=aZs hc
  rw [hc] at HC
  clear hc
  dsimp only
  obtain ⟨N,rfl⟩:=Int.eq_ofNat_of_zero_le (show 0≤n by omega)
  rw [Int.toNat_natCast]
  generalize hF:aZr [] one cmp N q0 []=F
  have HF:=hid_ hF;clear hF
  go_enter Try.func87,Try.ntmps87
  go_wp2_with ((with_reducible refine HC.mono ?_);rintro e w' ⟨v,rfl,rfl,hr⟩)
  have hRlt:=h.lt
  go_loopw [12,24] (fun out i wr=>∃ (k:Nat) (q:Int) (acc:List (List ByteArray)),k≤N∧i=.int .i64 k∧acc.length=k∧0≤q∧q≤bs.length∧Rd w wr R A c bs q∧(Kd.slice 9 Kd.string).R 22 wr w.heap.size (fun _=>True) out acc∧aZr [] one cmp (N - k) q acc=F) (fun _ i _=>N - (intOf i).toNat)
  case atStart=>exact ⟨0,q0,[],by omega,rfl,rfl,by omega,by omega,hr,Kd.R_nil _ _ _ _ _,HF.out⟩
  case round =>
   clear HC
   obtain ⟨k,q,acc,hk,rfl,hak,hq,hq2,hr2,hrow,he⟩:=hrel
   have HE:=hid_ he;clear he
   have HAK:=hid_ hak;clear hak
   obtain ⟨c0,c1,z1⟩:=hr2.cells
   by_cases hlt:k<N
   ·
    have HO:=hone wr q hr2 hq hq2
    have hstep:aZr [] one cmp (N - k) q acc=aZr [] one cmp ((N - k - 1)+1) q acc:=by congr 1;omega
    cases ho:one q with
    | error f =>
     rw [ho] at HO
     rw [hstep] at HE
     have he:=HE.out
     unfold aZr at he
     rw [ho] at he
     have HE2:=hid_ he.symm
     clear HE he hstep ho
     go_wp2_with ((with_reducible refine HO.mono ?_);intro e w' hf;obtain ⟨ps,rfl⟩:=hf.pan)
     exact ⟨rfl,Fin.trans hr2 (hf.err HE2.out)⟩
    | ok xq =>
     obtain ⟨x,q2⟩:=xq
     obtain ⟨hqq,hqq2⟩:=hah q x q2 hq ho
     rw [ho] at HO
     rw [hstep] at HE
     have he:=HE.out
     unfold aZr at he
     rw [ho] at he
     dsimp only at he
     have HE2:=hid_ he
     clear HE he hstep ho
     have hold:∀ g,u12.ownBlock=some g→g<wr.heap.size:=fun g hg=>((Kd.R_bound hrow).1 g hg).2.2.1
     by_cases hk0:k=0
     ·
      subst hk0
      have HE3:=HE2.out
      rw [if_neg (fun h=>by have:=h.1;rw [HAK.out] at this;omega)] at HE3
      have HE4:=hid_ HE3
      clear HE2 HE3
      go_wp2_with (first
       | ((with_reducible refine HO.mono ?_);rintro e w1 ⟨v,rfl,hx,hr3⟩;obtain ⟨Ax,cx,rfl,hxc,hxr⟩:=Kd.R_reads hx;have hrow3:=bZw hrow hRlt hr3)
       | ((with_reducible refine aZh (b:=.append) (xs:=#[.tmp 48,.tmp 50]) rfl ?_);at_builtin;refine Kd.R_append (Kd.slice 9 Kd.string) (w0:=w1) w.heap.size rfl (.tmp 48) (.tmp 50) 24 22 (.slice none 0 0) 24 rfl Try.underlying24 info22 rfl (by decide) (by omega) _ acc x [.slice Ax x.length cx] (fun _=>True) (fun k=>wr.heap.size≤k) rfl rfl (Kd.M_row (Kd.R_mono (Kd.R_lower (Kd.R_bound hx) hr2.kept.1) (fun _ hk=>hk.2.1))) (fun g hg=>⟨trivial,fun e=>by have:=hold g e.symm;omega⟩) (fun _ _=>trivial) hrow3 (Below.refl _ _) (Nat.le_trans hr2.kept.1 hr3.kept.1) (by rw [HAK.out];omega) ?_;intro out2 w3 hrow4 hb4 hg4 _))
      have hr4:=(hr2.trans hr3).grown hg4 (Kd.R_base hrow3) hRlt
      go_roundw
      case rel=>exact ⟨1,q2,acc++[x],by omega,rfl,by simp [HAK.out],by omega,hqq2,hr4,hrow4,HE4.out⟩
      case measure=>simp [intOf];omega
     ·
      obtain ⟨Ao,co,rfl,hco,hread⟩:=Kd.R_reads hrow
      have hk1:((k:Int) - 1).toNat=k - 1:=by omega
      have HE3:=HE2.out
      rw [HAK.out] at HE3
      have HE4:=hid_ HE3
      clear HE2 HE3 hread
      generalize hy:acc.getD (k - 1) []=y at HE4
      have HY:=hid_ hy;clear hy
      have hcells:∀ w1,(Kd.slice 9 Kd.string).R 22 w1 w.heap.size (fun _=>True) (.slice Ao acc.length co) acc→∃ ad A2 c2,Ao=some ad∧w1.cell? (ad.add (k - 1))=some (.slice A2 y.length c2)∧y.length≤c2∧Kd.string.C w1 A2 y.length y:=by
       intro w1 hrow3
       obtain ⟨ad,cs,e,hcl,hck,hcc⟩:=Kd.C_get (Kd.R_reads' hrow3).2.2 [] ((k:Int) - 1) (by omega) (by rw [HAK.out];omega)
       rw [hk1,HY.out] at hck
       have hs:(Kd.slice 9 Kd.string).sz=1:=rfl
       obtain ⟨A2,c2,rfl,hl2,hC2⟩:=hck
       have h2:=hcc 0 _ rfl
       rw [hs,Nat.mul_one,Nat.add_zero,hk1] at h2
       exact ⟨ad,A2,c2,e,h2,hl2,hC2⟩
      have hb1:(k:Int) - 1<acc.length:=by rw [HAK.out];omega
      have hb0:0≤(k:Int) - 1:=by omega
      clear hk1
      by_cases hge:0≤cmp y x
      ·
       have he:Except.error (204,q)=F:=by rw [←HE4.out,if_pos ⟨by omega,hge⟩]
       have HE5:=hid_ he.symm
       clear HE4 he
       go_wp2_with (first
        | ((with_reducible refine HO.mono ?_);rintro e w1 ⟨v,rfl,hx,hr3⟩;obtain ⟨Ax,cx,rfl,hxc,hxr⟩:=Kd.R_reads hx;have hrow3:=bZw hrow hRlt hr3;obtain ⟨ad,A2,c2,rfl,hcell,hc2,hyr⟩:=hcells w1 hrow3)
        | ((with_reducible refine (hcmp _ _ y _ _ x _ hyr hc2 hxr hxc).mono ?_);rintro e w2 ⟨rfl,⟨nd,rfl⟩⟩)
        | ((with_reducible refine (aZ3 _ _ _).mono ?_);rintro e w2 ⟨rfl,rfl⟩))
       exact ⟨rfl,Fin.fail ((hr2.trans hr3).drewN nd) rfl HE5.out⟩
      ·
       have he:=HE4.out
       rw [if_neg (fun h=>hge h.2)] at he
       have HE5:=hid_ he
       clear HE4 he
       go_wp2_with (first
        | ((with_reducible refine HO.mono ?_);rintro e w1 ⟨v,rfl,hx,hr3⟩;obtain ⟨Ax,cx,rfl,hxc,hxr⟩:=Kd.R_reads hx;have hrow3:=bZw hrow hRlt hr3;obtain ⟨ad,A2,c2,rfl,hcell,hc2,hyr⟩:=hcells w1 hrow3)
        | ((with_reducible refine (hcmp _ _ y _ _ x _ hyr hc2 hxr hxc).mono ?_);rintro e w2 ⟨rfl,⟨nd,rfl⟩⟩)
        | ((with_reducible refine aZh (b:=.append) (xs:=#[.tmp 48,.tmp 50]) rfl ?_);at_builtin;refine Kd.R_append (Kd.slice 9 Kd.string) (w0:=w1.drewN nd) w.heap.size rfl (.tmp 48) (.tmp 50) 24 22 (.slice none 0 0) 24 rfl Try.underlying24 info22 rfl (by decide) (by omega) _ acc x [.slice Ax x.length cx] (fun _=>True) (fun k=>wr.heap.size≤k) rfl rfl (Kd.M_drewN (Kd.M_row (Kd.R_mono (Kd.R_lower (Kd.R_bound hx) hr2.kept.1) (fun _ hk=>hk.2.1))) nd) (fun g hg=>⟨trivial,fun e=>by have:=hold g e.symm;omega⟩) (fun _ _=>trivial) (Kd.R_drewN hrow3 nd) (Below.refl _ _) (Nat.le_trans hr2.kept.1 hr3.kept.1) (by rw [HAK.out];omega) ?_;intro out2 w3 hrow4 hb4 hg4 _))
       have hr4:=((hr2.trans hr3).drewN nd).grown hg4 (Kd.R_base hrow3) hRlt
       go_roundw
       case rel=>exact ⟨k+1,q2,acc++[x],by omega,by go_num,by simp [HAK.out],by omega,hqq2,hr4,hrow4,by rw [show N - (k+1)=N - k - 1 from by omega];exact HE5.out⟩
       case measure=>simp [intOf];omega
   ·
    obtain rfl:k=N:=by omega
    have hd:k - k=0:=by omega
    rw [hd] at HE
    have he:Except.ok (acc,q)=F:=HE.out
    clear HE hd
    subst he
    go_wp2_with (fail)
    go_ret
    exact ⟨_,rfl,hrow,hr2⟩
theorem list79 (w:World) (R:Nat) (A:Option Addr) (c:Nat) (bs:List Int) (p lo hi:Int) (h:Rd w w R A c bs p) (hp:0≤p) (hp2:p≤bs.length) (G:Good bs) (hlo:0≤lo) (hlo2:lo≤1000) (hhi:hi≤32768) (hhi0:0≤hi) (one:Int→Except (Int × Int) (List Int × Int)) (cmp:List Int→List Int→Int) (hah:dZs bs one) (V:Addr)
 (hone:∀ (wr:World) (q:Int),Rd w wr R A c bs q→0≤q→q≤bs.length→Calls Try.prog 90 #[.pointer (some V)] wr (Fin wr R A c bs (one q) (fun x v w'=>(Kd.int .i64).R 3 w' wr.heap.size (fun _=>True) v x)))
 (hcmp:∀ (A0:Option Addr) (c0:Nat) (l0:List Int) (A1:Option Addr) (c1:Nat) (l1:List Int) (w:World),(Kd.int .i64).C w A0 l0.length l0→l0.length≤c0→(Kd.int .i64).C w A1 l1.length l1→l1.length≤c1→Calls Try.prog 80 #[.slice A0 l0.length c0,.slice A1 l1.length c1] w fun e w'=>e=.returned (.int .i64 (cmp l0 l1))∧Drawn0 w w') :
 Calls Try.prog 89 #[.pointer (some ⟨R,0,none⟩),.int .i64 lo,.int .i64 hi,.func (.func 90) #[] #[.pointer (some V)],.func (.func 80) #[] #[]] w (Fin w R A c bs (aZQ [] one cmp bs p lo hi) (fun x v w'=>(Kd.slice 3 (Kd.int .i64)).R 23 w' w.heap.size (fun _=>True) v x)):=by
 have hlen:=G.len
 have HC:=bZu w R A c bs p lo hi h hp hp2 G.byte G.len (by omega) (by omega)
 unfold aZQ
 cases hc:aZn bs p lo hi with
 | error f =>
  rw [hc] at HC
  clear hc
  go_enter Try.func89,Try.ntmps89
  go_wp2_with ((with_reducible refine HC.mono ?_);intro e w' hf;obtain ⟨ps,rfl⟩:=hf.pan)
  exact ⟨rfl,hf.err rfl⟩
 | ok xq =>
  obtain ⟨n,q0⟩:=xq
  obtain ⟨x1,x2,x3,x4⟩:=aZs hc
  rw [hc] at HC
  clear hc
  dsimp only
  obtain ⟨N,rfl⟩:=Int.eq_ofNat_of_zero_le (show 0≤n by omega)
  rw [Int.toNat_natCast]
  generalize hF:aZr [] one cmp N q0 []=F
  have HF:=hid_ hF;clear hF
  go_enter Try.func89,Try.ntmps89
  go_wp2_with ((with_reducible refine HC.mono ?_);rintro e w' ⟨v,rfl,rfl,hr⟩)
  have hRlt:=h.lt
  go_loopw [12,24] (fun out i wr=>∃ (k:Nat) (q:Int) (acc:List (List Int)),k≤N∧i=.int .i64 k∧acc.length=k∧0≤q∧q≤bs.length∧Rd w wr R A c bs q∧(Kd.slice 3 (Kd.int .i64)).R 23 wr w.heap.size (fun _=>True) out acc∧aZr [] one cmp (N - k) q acc=F) (fun _ i _=>N - (intOf i).toNat)
  case atStart=>exact ⟨0,q0,[],by omega,rfl,rfl,by omega,by omega,hr,Kd.R_nil _ _ _ _ _,HF.out⟩
  case round =>
   clear HC
   obtain ⟨k,q,acc,hk,rfl,hak,hq,hq2,hr2,hrow,he⟩:=hrel
   have HE:=hid_ he;clear he
   have HAK:=hid_ hak;clear hak
   obtain ⟨c0,c1,z1⟩:=hr2.cells
   by_cases hlt:k<N
   ·
    have HO:=hone wr q hr2 hq hq2
    have hstep:aZr [] one cmp (N - k) q acc=aZr [] one cmp ((N - k - 1)+1) q acc:=by congr 1;omega
    cases ho:one q with
    | error f =>
     rw [ho] at HO
     rw [hstep] at HE
     have he:=HE.out
     unfold aZr at he
     rw [ho] at he
     have HE2:=hid_ he.symm
     clear HE he hstep ho
     go_wp2_with ((with_reducible refine HO.mono ?_);intro e w' hf;obtain ⟨ps,rfl⟩:=hf.pan)
     exact ⟨rfl,Fin.trans hr2 (hf.err HE2.out)⟩
    | ok xq =>
     obtain ⟨x,q2⟩:=xq
     obtain ⟨hqq,hqq2⟩:=hah q x q2 hq ho
     rw [ho] at HO
     rw [hstep] at HE
     have he:=HE.out
     unfold aZr at he
     rw [ho] at he
     dsimp only at he
     have HE2:=hid_ he
     clear HE he hstep ho
     have hold:∀ g,u12.ownBlock=some g→g<wr.heap.size:=fun g hg=>((Kd.R_bound hrow).1 g hg).2.2.1
     by_cases hk0:k=0
     ·
      subst hk0
      have HE3:=HE2.out
      rw [if_neg (fun h=>by have:=h.1;rw [HAK.out] at this;omega)] at HE3
      have HE4:=hid_ HE3
      clear HE2 HE3
      go_wp2_with (first
       | ((with_reducible refine HO.mono ?_);rintro e w1 ⟨v,rfl,hx,hr3⟩;obtain ⟨Ax,cx,rfl,hxc,hxr⟩:=Kd.R_reads hx;have hrow3:=bZw hrow hRlt hr3)
       | ((with_reducible refine aZh (b:=.append) (xs:=#[.tmp 48,.tmp 50]) rfl ?_);at_builtin;refine Kd.R_append (Kd.slice 3 (Kd.int .i64)) (w0:=w1) w.heap.size rfl (.tmp 48) (.tmp 50) 25 23 (.slice none 0 0) 24 rfl Try.underlying25 info23 rfl (by decide) (by omega) _ acc x [.slice Ax x.length cx] (fun _=>True) (fun k=>wr.heap.size≤k) rfl rfl (Kd.M_row (Kd.R_mono (Kd.R_lower (Kd.R_bound hx) hr2.kept.1) (fun _ hk=>hk.2.1))) (fun g hg=>⟨trivial,fun e=>by have:=hold g e.symm;omega⟩) (fun _ _=>trivial) hrow3 (Below.refl _ _) (Nat.le_trans hr2.kept.1 hr3.kept.1) (by rw [HAK.out];omega) ?_;intro out2 w3 hrow4 hb4 hg4 _))
      have hr4:=(hr2.trans hr3).grown hg4 (Kd.R_base hrow3) hRlt
      go_roundw
      case rel=>exact ⟨1,q2,acc++[x],by omega,rfl,by simp [HAK.out],by omega,hqq2,hr4,hrow4,HE4.out⟩
      case measure=>simp [intOf];omega
     ·
      obtain ⟨Ao,co,rfl,hco,hread⟩:=Kd.R_reads hrow
      have hk1:((k:Int) - 1).toNat=k - 1:=by omega
      have HE3:=HE2.out
      rw [HAK.out] at HE3
      have HE4:=hid_ HE3
      clear HE2 HE3 hread
      generalize hy:acc.getD (k - 1) []=y at HE4
      have HY:=hid_ hy;clear hy
      have hcells:∀ w1,(Kd.slice 3 (Kd.int .i64)).R 23 w1 w.heap.size (fun _=>True) (.slice Ao acc.length co) acc→∃ ad A2 c2,Ao=some ad∧w1.cell? (ad.add (k - 1))=some (.slice A2 y.length c2)∧y.length≤c2∧(Kd.int .i64).C w1 A2 y.length y:=by
       intro w1 hrow3
       obtain ⟨ad,cs,e,hcl,hck,hcc⟩:=Kd.C_get (Kd.R_reads' hrow3).2.2 [] ((k:Int) - 1) (by omega) (by rw [HAK.out];omega)
       rw [hk1,HY.out] at hck
       have hs:(Kd.slice 3 (Kd.int .i64)).sz=1:=rfl
       obtain ⟨A2,c2,rfl,hl2,hC2⟩:=hck
       have h2:=hcc 0 _ rfl
       rw [hs,Nat.mul_one,Nat.add_zero,hk1] at h2
       exact ⟨ad,A2,c2,e,h2,hl2,hC2⟩
      have hb1:(k:Int) - 1<acc.length:=by rw [HAK.out];omega
      have hb0:0≤(k:Int) - 1:=by omega
      clear hk1
      by_cases hge:0≤cmp y x
      ·
       have he:Except.error (204,q)=F:=by rw [←HE4.out,if_pos ⟨by omega,hge⟩]
       have HE5:=hid_ he.symm
       clear HE4 he
       go_wp2_with (first
        | ((with_reducible refine HO.mono ?_);rintro e w1 ⟨v,rfl,hx,hr3⟩;obtain ⟨Ax,cx,rfl,hxc,hxr⟩:=Kd.R_reads hx;have hrow3:=bZw hrow hRlt hr3;obtain ⟨ad,A2,c2,rfl,hcell,hc2,hyr⟩:=hcells w1 hrow3)
        | ((with_reducible refine (hcmp _ _ y _ _ x _ hyr hc2 hxr hxc).mono ?_);rintro e w2 ⟨rfl,⟨nd,rfl⟩⟩)
        | ((with_reducible refine (aZ3 _ _ _).mono ?_);rintro e w2 ⟨rfl,rfl⟩))
       exact ⟨rfl,Fin.fail ((hr2.trans hr3).drewN nd) rfl HE5.out⟩
      ·
       have he:=HE4.out
       rw [if_neg (fun h=>hge h.2)] at he
       have HE5:=hid_ he
       clear HE4 he
       go_wp2_with (first
        | ((with_reducible refine HO.mono ?_);rintro e w1 ⟨v,rfl,hx,hr3⟩;obtain ⟨Ax,cx,rfl,hxc,hxr⟩:=Kd.R_reads hx;have hrow3:=bZw hrow hRlt hr3;obtain ⟨ad,A2,c2,rfl,hcell,hc2,hyr⟩:=hcells w1 hrow3)
        | ((with_reducible refine (hcmp _ _ y _ _ x _ hyr hc2 hxr hxc).mono ?_);rintro e w2 ⟨rfl,⟨nd,rfl⟩⟩)
        | ((with_reducible refine aZh (b:=.append) (xs:=#[.tmp 48,.tmp 50]) rfl ?_);at_builtin;refine Kd.R_append (Kd.slice 3 (Kd.int .i64)) (w0:=w1.drewN nd) w.heap.size rfl (.tmp 48) (.tmp 50) 25 23 (.slice none 0 0) 24 rfl Try.underlying25 info23 rfl (by decide) (by omega) _ acc x [.slice Ax x.length cx] (fun _=>True) (fun k=>wr.heap.size≤k) rfl rfl (Kd.M_drewN (Kd.M_row (Kd.R_mono (Kd.R_lower (Kd.R_bound hx) hr2.kept.1) (fun _ hk=>hk.2.1))) nd) (fun g hg=>⟨trivial,fun e=>by have:=hold g e.symm;omega⟩) (fun _ _=>trivial) (Kd.R_drewN hrow3 nd) (Below.refl _ _) (Nat.le_trans hr2.kept.1 hr3.kept.1) (by rw [HAK.out];omega) ?_;intro out2 w3 hrow4 hb4 hg4 _))
       have hr4:=((hr2.trans hr3).drewN nd).grown hg4 (Kd.R_base hrow3) hRlt
       go_roundw
       case rel=>exact ⟨k+1,q2,acc++[x],by omega,by go_num,by simp [HAK.out],by omega,hqq2,hr4,hrow4,by rw [show N - (k+1)=N - k - 1 from by omega];exact HE5.out⟩
       case measure=>simp [intOf];omega
   ·
    obtain rfl:k=N:=by omega
    have hd:k - k=0:=by omega
    rw [hd] at HE
    have he:Except.ok (acc,q)=F:=HE.out
    clear HE hd
    subst he
    go_wp2_with (fail)
    go_ret
    exact ⟨_,rfl,hrow,hr2⟩
def cmpS (a b:ByteArray):Int:=if Op.bytesLess a.toList b.toList=true then -1 else if Op.bytesLess b.toList a.toList=true then 1 else 0
def cmpI (a b:Int):Int:=if a<b then -1 else if a > b then 1 else 0
def cmpL {α:Type} (cmp:α→α→Int):List α→List α→Int
  | [],[]=>0
  | [],_ :: _=>-1
  | _ :: _,[]=>1
  | a :: xs,b :: ys=>if cmp a b=0 then cmpL cmp xs ys else cmp a b
theorem cmpS_f (a b:ByteArray):cmp_Compare_string.f a b=some (cmpS a b):=by
 unfold cmp_Compare_string.f cmp_isNaN_string.f cmpS
 simp only [Option.bind_some,bne_self_eq_false,Bool.false_eq_true,if_false]
 split
 · rfl
 · split <;> rfl
theorem cmpI_f (a b:Int):cmp_Compare_int.f a b=some (cmpI a b):=by
 unfold cmp_Compare_int.f cmp_isNaN_int.f cmpI
 simp only [Option.bind_some,bne_self_eq_false,Bool.false_eq_true,if_false]
 split
 · rfl
 · split <;> rfl
theorem hZL (a b:ByteArray) (w:World):Calls Try.prog 71 #[.string a,.string b] w fun e w'=>e=.returned (.int .i64 (cmpS a b))∧Drawn0 w w':=cmp_Compare_string.calls a b _ w (cmpS_f a b)
theorem hZM (a b:Int) (w:World):Calls Try.prog 75 #[.int .i64 a,.int .i64 b] w fun e w'=>e=.returned (.int .i64 (cmpI a b))∧Drawn0 w w':=cmp_Compare_int.calls a b _ w (cmpI_f a b)
theorem cmpLS_l (x0 x1:List ByteArray) (h:x0.length≤9223372036854775807):∀ (k i:Nat),x0.length - i<k→i≤x0.length→i≤x1.length→slices_Compare_string_string.l0 k x0 x1 x0 (x0.length:Int) i=some (cmpL cmpS (x0.drop i) (x1.drop i))
 | 0,i,hk,_,_=>by omega
 | k+1,i,hk,h0,h1=>by
  unfold slices_Compare_string_string.l0
  by_cases hlt:i<x0.length
  ·
   rw [if_pos (by omega),if_pos (by omega),if_pos (by omega),List.drop_eq_getElem_cons hlt]
   by_cases hlt1:i<x1.length
   ·
    rw [if_neg (by omega),if_pos (by omega),List.drop_eq_getElem_cons hlt1,cmpS_f,Option.bind_some]
    have e0:rdOf ByteArray.empty x0 (i:Int)=x0[i]:=by simp [rdOf,hlt]
    have e1:rdOf ByteArray.empty x1 (i:Int)=x1[i]:=by simp [rdOf,hlt1]
    have ew:wrap64 ((i:Int)+1)=((i+1:Nat):Int):=by rw [IntWalk.wrap64_in _ ⟨by omega,by omega⟩];omega
    rw [e0,e1,ew]
    unfold cmpL
    by_cases hc:cmpS x0[i] x1[i]=0
    ·
     rw [if_pos hc,if_pos hc]
     exact cmpLS_l x0 x1 h k (i+1) (by omega) (by omega) (by omega)
    · rw [if_neg hc,if_neg hc]
   ·
    rw [if_pos (by omega),List.drop_eq_nil_of_le (by omega:x1.length≤i)]
    rfl
  ·
   rw [if_neg (by omega),List.drop_eq_nil_of_le (by omega:x0.length≤i)]
   by_cases hlt1:i<x1.length
   ·
    rw [if_pos (by omega),List.drop_eq_getElem_cons hlt1]
    rfl
   ·
    rw [if_neg (by omega),List.drop_eq_nil_of_le (by omega:x1.length≤i)]
    rfl
theorem cmpLI_l (x0 x1:List Int) (h:x0.length≤9223372036854775807):∀ (k i:Nat),x0.length - i<k→i≤x0.length→i≤x1.length→slices_Compare_int_int.l0 k x0 x1 x0 (x0.length:Int) i=some (cmpL cmpI (x0.drop i) (x1.drop i))
 | 0,i,hk,_,_=>by omega
 | k+1,i,hk,h0,h1=>by
  unfold slices_Compare_int_int.l0
  by_cases hlt:i<x0.length
  ·
   rw [if_pos (by omega),if_pos (by omega),if_pos (by omega),List.drop_eq_getElem_cons hlt]
   by_cases hlt1:i<x1.length
   ·
    rw [if_neg (by omega),if_pos (by omega),List.drop_eq_getElem_cons hlt1,cmpI_f,Option.bind_some]
    have e0:rd x0 (i:Int)=x0[i]:=by simp [rd,hlt]
    have e1:rd x1 (i:Int)=x1[i]:=by simp [rd,hlt1]
    have ew:wrap64 ((i:Int)+1)=((i+1:Nat):Int):=by rw [IntWalk.wrap64_in _ ⟨by omega,by omega⟩];omega
    rw [e0,e1,ew]
    unfold cmpL
    by_cases hc:cmpI x0[i] x1[i]=0
    ·
     rw [if_pos hc,if_pos hc]
     exact cmpLI_l x0 x1 h k (i+1) (by omega) (by omega) (by omega)
    · rw [if_neg hc,if_neg hc]
   ·
    rw [if_pos (by omega),List.drop_eq_nil_of_le (by omega:x1.length≤i)]
    rfl
  ·
   rw [if_neg (by omega),List.drop_eq_nil_of_le (by omega:x0.length≤i)]
   by_cases hlt1:i<x1.length
   ·
    rw [if_pos (by omega),List.drop_eq_getElem_cons hlt1]
    rfl
   ·
    rw [if_neg (by omega),List.drop_eq_nil_of_le (by omega:x1.length≤i)]
    rfl
theorem cmpLS_any (A0:Option Addr) (c0:Nat) (l0:List ByteArray) (A1:Option Addr) (c1:Nat) (l1:List ByteArray) (w:World) (h0:Kd.string.C w A0 l0.length l0) (hc0:l0.length≤c0) (h1:Kd.string.C w A1 l1.length l1) (hc1:l1.length≤c1) :
    Calls Try.prog 78 #[.slice A0 l0.length c0,.slice A1 l1.length c1] w fun e w'=>e=.returned (.int .i64 (cmpL cmpS l0 l1))∧Drawn0 w w' :=
  slices_Compare_string_string.calls (l0.length+1) A0 c0 l0 A1 c1 l1 _ w h0 hc0 h1 hc1 (cmpLS_l l0 l1 h0.2.1 (l0.length+1) 0 (by omega) (by omega) (by omega))
theorem cmpLI_any (A0:Option Addr) (c0:Nat) (l0:List Int) (A1:Option Addr) (c1:Nat) (l1:List Int) (w:World) (h0:(Kd.int .i64).C w A0 l0.length l0) (hc0:l0.length≤c0) (h1:(Kd.int .i64).C w A1 l1.length l1) (hc1:l1.length≤c1) :
    Calls Try.prog 80 #[.slice A0 l0.length c0,.slice A1 l1.length c1] w fun e w'=>e=.returned (.int .i64 (cmpL cmpI l0 l1))∧Drawn0 w w' :=
  slices_Compare_int_int.calls (l0.length+1) A0 c0 l0 A1 c1 l1 _ w h0 hc0 h1 hc1 (cmpLI_l l0 l1 h0.2.1 (l0.length+1) 0 (by omega) (by omega) (by omega))
theorem bZp (bs:List Int):dZs bs (numF bs):=by
 intro p x q hp h
 unfold numF at h
 split at h
 · simp at h
 ·
  rename_i n q' hc
  have:=aZs hc
  simp only [Except.ok.injEq,Prod.mk.injEq] at h
  omega
theorem aZ8 (bs:List Int):dZs bs (bZh bs):=by
 intro p x q hp h
 unfold bZh at h
 split at h
 · simp at h
 ·
  rename_i n q' hc
  have:=aZs hc
  split at h
  · simp at h
  ·
   simp only [Except.ok.injEq,Prod.mk.injEq] at h
   omega
theorem eZI {α:Type} (z:α) (bs:List Int) (one:Int→Except (Int × Int) (α × Int)) (cmp:α→α→Int) (ho:dZs bs one):∀ (d:Nat) (q:Int) (acc x:List α) (q2:Int),0≤q→q≤bs.length→aZr z one cmp d q acc=.ok (x,q2)→q≤q2∧q2≤bs.length∧x.length=acc.length+d
  | 0,q,acc,x,q2,h0,hq,h=>by
    unfold aZr at h
    simp only [Except.ok.injEq,Prod.mk.injEq] at h
    obtain ⟨rfl,rfl⟩:=h
    exact ⟨by omega,hq,rfl⟩
  | d+1,q,acc,x,q2,h0,hq,h=>by
    unfold aZr at h
    split at h
    · simp at h
    · rename_i y q3 hc
      have h3:=ho q y q3 h0 hc
      split at h
      · simp at h
      · have:=eZI z bs one cmp ho d q3 _ x q2 (by omega) h3.2 h
        simp only [List.length_append,List.length_cons,List.length_nil] at this
        omega
theorem bZ0 {α:Type} {z:α} {bs:List Int} {one:Int→Except (Int × Int) (α × Int)} {cmp:α→α→Int} (ho:dZs bs one) {p lo hi:Int} (hp:0≤p) (hlo:0≤lo) {x:List α} {q:Int} (h:aZQ z one cmp bs p lo hi=.ok (x,q)):p<q∧q≤bs.length∧lo≤x.length∧(x.length:Int)≤hi:=by
 unfold aZQ at h
 split at h
 · simp at h
 ·
  rename_i n q' hc
  have hcc:=aZs hc
  have:=eZI z bs one cmp ho _ q' _ x q (by omega) hcc.2.2.2 h
  simp only [List.length_nil] at this
  omega
theorem bZW {α:Type} (z:α) (bs:List Int) (one:Int→Except (Int × Int) (α × Int)) (cmp:α→α→Int) (ho:dZs bs one) (lo hi:Int) (hlo:0≤lo):dZs bs (fun p=>aZQ z one cmp bs p lo hi):=fun p x q hp h=>⟨(bZ0 ho hp hlo h).1,(bZ0 ho hp hlo h).2.1⟩
def bZc (bs:List Int) (p:Int):Except (Int × Int) (List ByteArray × Int):=aZQ ByteArray.empty (bZh bs) cmpS bs p 1 1000
def bZt (bs:List Int) (p:Int):Except (Int × Int) (List Int × Int):=aZQ 0 (numF bs) cmpI bs p 1 1000
theorem prog1_any (w:World) (R:Nat) (A:Option Addr) (c:Nat) (bs:List Int) (p:Int) (h:Rd w w R A c bs p) (hp:0≤p) (hp2:p≤bs.length) (G:Good bs) (hbc:bs.length≤c) (V:Addr) (hV:w.cell? V=some (.pointer (some ⟨R,0,none⟩))) :
 Calls Try.prog 88 #[.pointer (some V)] w (Fin w R A c bs (bZc bs p) (fun x v w'=>Kd.string.R 9 w' w.heap.size (fun _=>True) v x)):=by
 have hmf:∀ (fn:Fn) (first cap:Array Value) (w:World),(Instr.makeFunc fn first cap).run Try.prog w=.ok (.func fn first cap) w:=fun _ _ _ _=>rfl
 have HL:=list73 w R A c bs p 1 1000 h hp hp2 G (by omega) (by omega) (by omega) (by omega) (bZh bs) cmpS (aZ8 bs) (fun wr q hr h0 h1=>hZr wr R A c bs q hr.self h0 h1 G hbc) (fun a b w=>hZL a b w)
 change Calls _ _ _ w (Fin w R A c bs (bZc bs p) _) at HL
 cases hc:bZc bs p with
 | error f =>
  rw [hc] at HL
  clear hc
  go_enter Try.func88,Try.ntmps88
  go_wp2_with ((with_reducible refine HL.mono ?_);intro e w' hf;obtain ⟨ps,rfl⟩:=hf.pan)
  exact ⟨rfl,hf.err rfl⟩
 | ok xq =>
  obtain ⟨x,q⟩:=xq
  rw [hc] at HL
  clear hc
  go_enter Try.func88,Try.ntmps88
  go_wp2_with ((with_reducible refine HL.mono ?_);rintro e w' ⟨v,rfl,hx,hr⟩)
  go_ret
  exact ⟨_,rfl,hx,hr⟩
theorem prog2_any (w:World) (R:Nat) (A:Option Addr) (c:Nat) (bs:List Int) (p:Int) (h:Rd w w R A c bs p) (hp:0≤p) (hp2:p≤bs.length) (G:Good bs) (hbc:bs.length≤c) (V:Addr) (hV:w.cell? V=some (.pointer (some ⟨R,0,none⟩))) :
 Calls Try.prog 90 #[.pointer (some V)] w (Fin w R A c bs (bZt bs p) (fun x v w'=>(Kd.int .i64).R 3 w' w.heap.size (fun _=>True) v x)):=by
 have hmf:∀ (fn:Fn) (first cap:Array Value) (w:World),(Instr.makeFunc fn first cap).run Try.prog w=.ok (.func fn first cap) w:=fun _ _ _ _=>rfl
 have HL:=list75 w R A c bs p 1 1000 h hp hp2 G (by omega) (by omega) (by omega) (by omega) (numF bs) cmpI (bZp bs) (fun wr q hr h0 h1=>num_any wr R A c bs q hr.self h0 h1 G) (fun a b w=>hZM a b w)
 change Calls _ _ _ w (Fin w R A c bs (bZt bs p) _) at HL
 cases hc:bZt bs p with
 | error f =>
  rw [hc] at HL
  clear hc
  go_enter Try.func90,Try.ntmps90
  go_wp2_with ((with_reducible refine HL.mono ?_);intro e w' hf;obtain ⟨ps,rfl⟩:=hf.pan)
  exact ⟨rfl,hf.err rfl⟩
 | ok xq =>
  obtain ⟨x,q⟩:=xq
  rw [hc] at HL
  clear hc
  go_enter Try.func90,Try.ntmps90
  go_wp2_with ((with_reducible refine HL.mono ?_);rintro e w' ⟨v,rfl,hx,hr⟩)
  go_ret
  exact ⟨_,rfl,hx,hr⟩
def aZW {α:Type} (cmp:α→α→Int) (ok:α→Bool):Option α→List α→Bool
  | _,[]=>true
  | none,x :: l=>ok x && aZW cmp ok (some x) l
  | some y,x :: l=>ok x && !decide (0≤cmp y x) && aZW cmp ok (some x) l
def okS (s:ByteArray):Bool:=decide (s.size≤127)
def okI (n:Int):Bool:=decide (-1000000000000000000≤n∧n≤1000000000000000000)
def okSS (l:List ByteArray):Bool:=decide (1≤l.length∧l.length≤1000) && aZW cmpS okS none l
def okII (l:List Int):Bool:=decide (1≤l.length∧l.length≤1000) && aZW cmpI okI none l
theorem bZT (n:Int) (h:-9223372036854775808≤n) (h2:n≤9223372036854775807):wrap64 n=n:=IntWalk.wrap64_in n ⟨h,h2⟩
structure Pg where
  T:List ByteArray
  N:List Int
  S:List (List ByteArray)
  M:List (List Int)
  C:List S66
  dep:Int
  loc:Int
def eZk (i:Nat):Int:=if i=0 then 66 else if i=1 then 82 else if i=2 then 84 else 1
def bZ6 (bs:List Int):Nat→Nat→Option (Int × Int)
  | 0,_=>none
  | d+1,i=>if bs.length≤i then some (201,bs.length) else if bs.getD i 0≠eZk i then some (200,i) else bZ6 bs d (i+1)
def cZo (bs:List Int):Nat→Int→List S66→Except (Int × Int) (List S66 × Int)
  | 0,q,acc=>.ok (acc,q)
  | d+1,q,acc=>match aZ7 bs q with | .error f=>.error f | .ok (x,q2)=>cZo bs d q2 (acc++[x])
def pEnd (bs:List Int) (g:Pg) (q:Int):Except (Int × Int) (Pg × Int):=if q<bs.length then .error (206,q) else .ok (g,q)
def dZn (bs:List Int) (T:List ByteArray) (N:List Int) (S:List (List ByteArray)) (M:List (List Int)) (dep loc:Int) (d:Nat) (q:Int) (C:List S66):Except (Int × Int) (Pg × Int) :=
  match cZo bs d q C with | .error f=>.error f | .ok (C,q)=>pEnd bs ⟨T,N,S,M,C,dep,loc⟩ q
def dZ1 (bs:List Int) (T:List ByteArray) (N:List Int) (S:List (List ByteArray)) (M:List (List Int)) (dep loc q:Int):Except (Int × Int) (Pg × Int) :=
  match aZn bs q 0 32768 with | .error f=>.error f | .ok (n,q)=>dZn bs T N S M dep loc n.toNat q []
def pM (bs:List Int) (T:List ByteArray) (N:List Int) (S:List (List ByteArray)) (dep loc q:Int):Except (Int × Int) (Pg × Int) :=
  match aZQ [] (bZt bs) (cmpL cmpI) bs q 0 (4096 - T.length - N.length - S.length) with | .error f=>.error f | .ok (M,q)=>dZ1 bs T N S M dep loc q
def pS (bs:List Int) (T:List ByteArray) (N:List Int) (dep loc q:Int):Except (Int × Int) (Pg × Int) :=
  match aZQ [] (bZc bs) (cmpL cmpS) bs q 0 (4096 - T.length - N.length) with | .error f=>.error f | .ok (S,q)=>pM bs T N S dep loc q
def pN (bs:List Int) (T:List ByteArray) (dep loc q:Int):Except (Int × Int) (Pg × Int) :=
  match aZQ 0 (numF bs) cmpI bs q 0 (4096 - T.length) with | .error f=>.error f | .ok (N,q)=>pS bs T N dep loc q
def pT (bs:List Int) (dep loc q:Int):Except (Int × Int) (Pg × Int) :=
  match aZQ ByteArray.empty (bZh bs) cmpS bs q 0 4096 with | .error f=>.error f | .ok (T,q)=>pN bs T dep loc q
def pLoc (bs:List Int) (dep q:Int):Except (Int × Int) (Pg × Int):=match aZn bs q 0 1024 with | .error f=>.error f | .ok (loc,q)=>pT bs dep loc q
def pDep (bs:List Int) (q:Int):Except (Int × Int) (Pg × Int):=match aZn bs q 0 128 with | .error f=>.error f | .ok (dep,q)=>pLoc bs dep q
def aZJ (bs:List Int):Except (Int × Int) (Pg × Int):=match bZ6 bs 4 0 with|some f=>.error f|none=>pDep bs 4
theorem eZi (bs:List Int):dZs bs (aZ7 bs):=by
 intro p x q hp h
 unfold aZ7 at h
 split at h
 · simp at h
 split at h
 · simp at h
 ·
  have g:∀ b d q0 y q1,getN bs b d q0=.ok (y,q1)→q0≤q1∧(q0≤bs.length→q1≤bs.length):=by
   intro b d q0 y q1 hg
   unfold getN at hg
   split at hg
   ·
    have:=aZs hg
    omega
   ·
    simp only [Except.ok.injEq,Prod.mk.injEq] at hg
    omega
  simp only [aZK] at h
  split at h
  · simp at h
  rename_i a1 q1 h1
  split at h
  · simp at h
  rename_i a2 q2 h2
  split at h
  · simp at h
  rename_i a3 q3 h3
  simp only [Except.ok.injEq,Prod.mk.injEq] at h
  have:=g _ _ _ _ _ h1
  have:=g _ _ _ _ _ h2
  have:=g _ _ _ _ _ h3
  omega
structure StP (w W:World) (R:Nat) (A:Option Addr) (cp:Nat) (bs:List Int) (q:Int) (B X Z:Nat) (vT vN vS vM vC:Value) (g:Pg):Prop where
  rd:Rd w W R A cp bs q
  b:W.heap[B]?=some (.cells #[.pointer (some ⟨R,0,none⟩)] 123 (0,0))
  x:W.heap[X]?=some (.cells #[vT,vN,vS,vM,vC,.int .i64 g.dep,.int .i64 g.loc] 28 (0,0))
  z:W.heap[Z]?=some (.cells #[.slice none 0 0,.slice none 0 0,.slice none 0 0,.slice none 0 0,.slice none 0 0,.int .i64 0,.int .i64 0] 28 (0,0))
  bR:w.heap.size≤B
  zR:w.heap.size≤Z
  bX:B<X
  zX:Z<X
  ne:B≠Z
  rT:Kd.string.R 9 W w.heap.size (fun k=>X<k) vT g.T
  rN:(Kd.int .i64).R 3 W w.heap.size (fun k=>X<k) vN g.N
  rS:(Kd.slice 9 Kd.string).R 22 W w.heap.size (fun k=>X<k) vS g.S
  rM:(Kd.slice 3 (Kd.int .i64)).R 23 W w.heap.size (fun k=>X<k) vM g.M
  rC:k66.R 66 W w.heap.size (fun k=>X<k) vC g.C
section
variable {w W W2:World} {R:Nat} {A:Option Addr} {cp:Nat} {bs:List Int} {q q2:Int} {B X Z:Nat} {vT vN vS vM vC:Value} {g:Pg}
theorem StP.cells (h:StP w W R A cp bs q B X Z vT vN vS vM vC g) :
    W.cell? ⟨B,0,none⟩=some (.pointer (some ⟨R,0,none⟩)) ∧
    W.cell? ⟨X,0,none⟩=some vT∧W.cell? ⟨X,1,none⟩=some vN∧W.cell? ⟨X,2,none⟩=some vS∧W.cell? ⟨X,3,none⟩=some vM∧W.cell? ⟨X,4,none⟩=some vC∧W.cell? ⟨X,5,none⟩=some (.int .i64 g.dep)∧W.cell? ⟨X,6,none⟩=some (.int .i64 g.loc) ∧
    W.frozen? ⟨X,0,none⟩=false∧W.frozen? ⟨X,1,none⟩=false∧W.frozen? ⟨X,2,none⟩=false∧W.frozen? ⟨X,3,none⟩=false∧W.frozen? ⟨X,4,none⟩=false∧W.frozen? ⟨X,5,none⟩=false∧W.frozen? ⟨X,6,none⟩=false:=by
  refine ⟨?_,?_,?_,?_,?_,?_,?_,?_,?_,?_,?_,?_,?_,?_,?_⟩ <;> simp [World.cell?,World.frozen?,h.x,h.b]
theorem StP.zcells (h:StP w W R A cp bs q B X Z vT vN vS vM vC g) :
    W.cell? ⟨Z,0,none⟩=some (.slice none 0 0)∧W.cell? ⟨Z,1,none⟩=some (.slice none 0 0)∧W.cell? ⟨Z,2,none⟩=some (.slice none 0 0)∧W.cell? ⟨Z,3,none⟩=some (.slice none 0 0)∧W.cell? ⟨Z,4,none⟩=some (.slice none 0 0)∧W.cell? ⟨Z,5,none⟩=some (.int .i64 0)∧W.cell? ⟨Z,6,none⟩=some (.int .i64 0) ∧
    W.frozen? ⟨Z,0,none⟩=false∧W.frozen? ⟨Z,1,none⟩=false∧W.frozen? ⟨Z,2,none⟩=false∧W.frozen? ⟨Z,3,none⟩=false∧W.frozen? ⟨Z,4,none⟩=false∧W.frozen? ⟨Z,5,none⟩=false∧W.frozen? ⟨Z,6,none⟩=false:=by
  refine ⟨?_,?_,?_,?_,?_,?_,?_,?_,?_,?_,?_,?_,?_,?_⟩ <;> simp [World.cell?,World.frozen?,h.z]
theorem StP.call (h:StP w W R A cp bs q B X Z vT vN vS vM vC g) (hR:R<w.heap.size) (k:Rd W W2 R A cp bs q2):StP w W2 R A cp bs q2 B X Z vT vN vS vM vC g:=by
  have h1:=h.bR
  have h2:=h.zR
  have h3:=h.bX
  have ne:∀ j,X<j→¬j=R:=fun j hj e=>by omega
  exact ⟨h.rd.trans k, (k.kept.2 B (aZd h.b) (by omega)).trans h.b, (k.kept.2 X (aZd h.x) (by omega)).trans h.x, (k.kept.2 Z (aZd h.z) (by omega)).trans h.z, h1, h2, h3, h.zX, h.ne,
    Kd.R_kept h.rT k.kept ne,Kd.R_kept h.rN k.kept ne,Kd.R_kept h.rS k.kept ne,Kd.R_kept h.rM k.kept ne,Kd.R_kept h.rC k.kept ne⟩
theorem StP.drew (h:StP w W R A cp bs q B X Z vT vN vS vM vC g):StP w W.drew R A cp bs q B X Z vT vN vS vM vC g :=
  ⟨h.rd.drew,h.b,h.x,h.z,h.bR,h.zR,h.bX,h.zX,h.ne,Kd.R_drew h.rT,Kd.R_drew h.rN,Kd.R_drew h.rS,Kd.R_drew h.rM,Kd.R_drew h.rC⟩
theorem StP.mine {α:Type} {d:Kd α} {e:Nat} {v:Value} {l:List α} (h:StP w W R A cp bs q B X Z vT vN vS vM vC g) (hv:d.R e W2 W.heap.size (fun _=>True) v l):d.R e W2 w.heap.size (fun k=>X<k) v l :=
  Kd.R_lower (Kd.R_mono (Kd.R_bound hv) (fun k hk=>by have:=hk.2.1;have:=aZd h.x;omega)) h.rd.kept.1
theorem StP.store (h:StP w W R A cp bs q B X Z vT vN vS vM vC g) (hR:R<w.heap.size) (i:Nat) (v:Value) :
 Rd w (W.setCell ⟨X,i,none⟩ v) R A cp bs q∧(W.setCell ⟨X,i,none⟩ v).heap[B]?=some (.cells #[.pointer (some ⟨R,0,none⟩)] 123 (0,0)) ∧
 (W.setCell ⟨X,i,none⟩ v).heap[X]?=some (.cells (#[vT,vN,vS,vM,vC,.int .i64 g.dep,.int .i64 g.loc].setIfInBounds i v) 28 (0,0)) ∧
 (W.setCell ⟨X,i,none⟩ v).heap[Z]?=some (.cells #[.slice none 0 0,.slice none 0 0,.slice none 0 0,.slice none 0 0,.slice none 0 0,.int .i64 0,.int .i64 0] 28 (0,0)):=by
 have h1:=h.bR
 have h2:=h.zR
 have h3:=h.bX
 have h4:=h.zX
 refine ⟨⟨h.rd.below.setCell (by simp;omega) _,h.rd.kept.setCell (.inr (by simp;omega)) _,?_,h.rd.row⟩,?_,?_,?_⟩
 · rw [Below.heap_setCell _ _ _ _ (by simp;omega)];exact h.rd.blk
 · rw [Below.heap_setCell _ _ _ _ (by simp;omega)];exact h.b
 · simp [World.setCell,h.x,Array.getElem?_modify]
 · rw [Below.heap_setCell _ _ _ _ (by simp;omega)];exact h.z
theorem far_ {α:Type} {d:Kd α} {e:Nat} {v u:Value} {l:List α} {i:Nat} (hv:d.R e W w.heap.size (fun k=>X<k) v l):d.R e (W.setCell ⟨X,i,none⟩ u) w.heap.size (fun k=>X<k) v l:=Kd.R_far hv (fun k hk=>by simp;omega) u
theorem StP.put0 (h:StP w W R A cp bs q B X Z vT vN vS vM vC g) (hR:R<w.heap.size) {v:Value} {l:List ByteArray} (hv:Kd.string.R 9 W w.heap.size (fun k=>X<k) v l) :
    StP w (W.setCell ⟨X,0,none⟩ v) R A cp bs q B X Z v vN vS vM vC { g with T:=l }:=by
  obtain ⟨a,b,c,d⟩:=h.store hR 0 v
  exact ⟨a,b,c,d,h.bR,h.zR,h.bX,h.zX,h.ne,far_ hv,far_ h.rN,far_ h.rS,far_ h.rM,far_ h.rC⟩
theorem StP.put1 (h:StP w W R A cp bs q B X Z vT vN vS vM vC g) (hR:R<w.heap.size) {v:Value} {l:List Int} (hv:(Kd.int .i64).R 3 W w.heap.size (fun k=>X<k) v l) :
    StP w (W.setCell ⟨X,1,none⟩ v) R A cp bs q B X Z vT v vS vM vC { g with N:=l }:=by
  obtain ⟨a,b,c,d⟩:=h.store hR 1 v
  exact ⟨a,b,c,d,h.bR,h.zR,h.bX,h.zX,h.ne,far_ h.rT,far_ hv,far_ h.rS,far_ h.rM,far_ h.rC⟩
theorem StP.put2 (h:StP w W R A cp bs q B X Z vT vN vS vM vC g) (hR:R<w.heap.size) {v:Value} {l:List (List ByteArray)} (hv:(Kd.slice 9 Kd.string).R 22 W w.heap.size (fun k=>X<k) v l) :
    StP w (W.setCell ⟨X,2,none⟩ v) R A cp bs q B X Z vT vN v vM vC { g with S:=l }:=by
  obtain ⟨a,b,c,d⟩:=h.store hR 2 v
  exact ⟨a,b,c,d,h.bR,h.zR,h.bX,h.zX,h.ne,far_ h.rT,far_ h.rN,far_ hv,far_ h.rM,far_ h.rC⟩
theorem StP.put3 (h:StP w W R A cp bs q B X Z vT vN vS vM vC g) (hR:R<w.heap.size) {v:Value} {l:List (List Int)} (hv:(Kd.slice 3 (Kd.int .i64)).R 23 W w.heap.size (fun k=>X<k) v l) :
    StP w (W.setCell ⟨X,3,none⟩ v) R A cp bs q B X Z vT vN vS v vC { g with M:=l }:=by
  obtain ⟨a,b,c,d⟩:=h.store hR 3 v
  exact ⟨a,b,c,d,h.bR,h.zR,h.bX,h.zX,h.ne,far_ h.rT,far_ h.rN,far_ h.rS,far_ hv,far_ h.rC⟩
theorem StP.put5 (h:StP w W R A cp bs q B X Z vT vN vS vM vC g) (hR:R<w.heap.size) (n:Int):StP w (W.setCell ⟨X,5,none⟩ (.int .i64 n)) R A cp bs q B X Z vT vN vS vM vC { g with dep:=n }:=by
  obtain ⟨a,b,c,d⟩:=h.store hR 5 (.int .i64 n)
  exact ⟨a,b,c,d,h.bR,h.zR,h.bX,h.zX,h.ne,far_ h.rT,far_ h.rN,far_ h.rS,far_ h.rM,far_ h.rC⟩
theorem StP.put6 (h:StP w W R A cp bs q B X Z vT vN vS vM vC g) (hR:R<w.heap.size) (n:Int):StP w (W.setCell ⟨X,6,none⟩ (.int .i64 n)) R A cp bs q B X Z vT vN vS vM vC { g with loc:=n }:=by
  obtain ⟨a,b,c,d⟩:=h.store hR 6 (.int .i64 n)
  exact ⟨a,b,c,d,h.bR,h.zR,h.bX,h.zX,h.ne,far_ h.rT,far_ h.rN,far_ h.rS,far_ h.rM,far_ h.rC⟩
theorem StP.grown (h:StP w W R A cp bs q B X Z vT vN vS vM vC g) (hR:R<w.heap.size) (hg:W.grownBy W2 vC.ownBlock) {v2:Value} {l2:List S66} (hv:k66.R 66 W2 w.heap.size (fun k=>X<k) v2 l2) :
 StP w (W2.setCell ⟨X,4,none⟩ v2) R A cp bs q B X Z vT vN vS vM v2 { g with C:=l2 }:=by
 have h1:=h.bR
 have h2:=h.zR
 have h3:=h.bX
 have h4:=h.zX
 have hC:∀ k,vC.ownBlock=some k→X<k:=h.rC.1
 have hb:∀ k o,k≤X→W.heap[k]?=some o→W2.heap[k]?=some o:=fun k o hk ho=>(hg.block k (aZd ho) (fun e=>by have:=hC k e.symm;omega)).trans ho
 have e:∀ k,k≠X→(W2.setCell ⟨X,4,none⟩ v2).heap[k]?=W2.heap[k]?:=fun k hk=>Below.heap_setCell _ _ _ _ (by simpa using hk)
 refine ⟨⟨(h.rd.below.grown hg (Nat.le_of_lt h.rd.lt) (fun k e=>by have:=hC k e;omega)).setCell (by simp;omega) _,(Kept.of_grown hg h.rd.kept (fun k e=>.inr (by have:=hC k e;omega))).setCell (.inr (by simp;omega)) _,?_,h.rd.row⟩,?_,?_,?_,h1,h2,h3,h4,h.ne,far_ (Kd.R_over h.rT h.rC (by decide) hg),far_ (Kd.R_over h.rN h.rC (by decide) hg),far_ (Kd.R_over h.rS h.rC (by decide) hg),far_ (Kd.R_over h.rM h.rC (by decide) hg),far_ hv⟩
 · rw [e _ (by omega)];exact hb _ _ (by omega) h.rd.blk
 · rw [e _ (by omega)];exact hb _ _ (by omega) h.b
 ·
  have:=hb X _ (Nat.le_refl _) h.x
  simp [World.setCell,this,Array.getElem?_modify]
 · rw [e _ (by omega)];exact hb _ _ (by omega) h.z
end
def opOK (b:Bool) (n:Int):Bool:=if b=true then decide (0≤n∧n≤65535) else decide (n=0)
def dZa (x:S66):Bool:=decide (1≤x.f0∧x.f0≤36) && (opOK (bZG x.f0).1 x.f1 && (opOK (bZG x.f0).2.1 x.f2 && opOK (bZG x.f0).2.2 x.f3))
def bZ7 (g:Pg):Bool:=decide (g.T.length+g.N.length+g.S.length+g.M.length≤4096) && (decide (g.C.length≤32768) && (decide (0≤g.dep∧g.dep≤128∧0≤g.loc∧g.loc≤1024) && (aZW cmpS okS none g.T && (aZW cmpI okI none g.N && (aZW (cmpL cmpS) okSS none g.S && (aZW (cmpL cmpI) okII none g.M && g.C.all dZa))))))
structure InPg (w:World) (A0 A1 A2 A3 A4:Option Addr) (c0 c1 c2 c3 c4:Nat) (g:Pg):Prop where
  T:Kd.string.C w A0 g.T.length g.T
  N:(Kd.int .i64).C w A1 g.N.length g.N
  S:(Kd.slice 9 Kd.string).C w A2 g.S.length g.S
  M:(Kd.slice 3 (Kd.int .i64)).C w A3 g.M.length g.M
  C:k66.C w A4 g.C.length g.C
  lT:g.T.length≤c0
  lN:g.N.length≤c1
  lS:g.S.length≤c2
  lM:g.M.length≤c3
  lC:g.C.length≤c4
structure Fits (g:Pg):Prop where
  T:g.T.length≤140737488351232
  N:g.N.length≤140737488351232
  S:g.S.length≤140737488351232
  M:g.M.length≤140737488351232
  C:g.C.length≤140737488351232
  SS:∀ x∈g.S,x.length≤140737488351232
  MM:∀ x∈g.M,x.length≤140737488351232
theorem InPg.below {w W:World} {A0 A1 A2 A3 A4:Option Addr} {c0 c1 c2 c3 c4:Nat} {g:Pg} (h:InPg w A0 A1 A2 A3 A4 c0 c1 c2 c3 c4 g) (hb:Below w.heap.size w W):InPg W A0 A1 A2 A3 A4 c0 c1 c2 c3 c4 g :=
  ⟨Kd.C_below h.T hb,Kd.C_below h.N hb,Kd.C_below h.S hb,Kd.C_below h.M hb,Kd.C_below h.C hb,h.lT,h.lN,h.lS,h.lM,h.lC⟩
def aZ6 (A0 A1 A2 A3 A4:Option Addr) (c0 c1 c2 c3 c4:Nat) (g:Pg):Value :=
  .agg #[.slice A0 g.T.length c0,.slice A1 g.N.length c1,.slice A2 g.S.length c2,.slice A3 g.M.length c3,.slice A4 g.C.length c4,.int .i64 g.dep,.int .i64 g.loc]
section
variable (x y z:Int) (w:World)
theorem jnf3a:(Try.prog.info? 3).map (fun i=>i.size)=some 1:=by kernel_rfl
theorem jnf3:∃ i,Try.prog.info? 3=some i∧i.size=1:=Option.map_eq_some_iff.1 jnf3a
theorem jx77_0:(Instr.index 121 (.agg #[.int .i64 x,.int .i64 y,.int .i64 z]) (.int .i64 0)).run Try.prog w=.ok (.int .i64 x) w:=by
  obtain ⟨i,h1,h2⟩:=jnf3
  simp [Instr.index,run_underlying Try.underlying121,asIntOf,part,sizeOf,typeInfo,h1,h2,isAgg,run_underlying Try.underlying3,go_sem]
theorem jx77_1:(Instr.index 121 (.agg #[.int .i64 x,.int .i64 y,.int .i64 z]) (.int .i64 1)).run Try.prog w=.ok (.int .i64 y) w:=by
  obtain ⟨i,h1,h2⟩:=jnf3
  simp [Instr.index,run_underlying Try.underlying121,asIntOf,part,sizeOf,typeInfo,h1,h2,isAgg,run_underlying Try.underlying3,go_sem]
theorem jx77_2:(Instr.index 121 (.agg #[.int .i64 x,.int .i64 y,.int .i64 z]) (.int .i64 2)).run Try.prog w=.ok (.int .i64 z) w:=by
  obtain ⟨i,h1,h2⟩:=jnf3
  simp [Instr.index,run_underlying Try.underlying121,asIntOf,part,sizeOf,typeInfo,h1,h2,isAgg,run_underlying Try.underlying3,go_sem]
end
attribute [local go_sem] jx77_0 jx77_1 jx77_2
theorem iZl {W:World} {B:Nat} {a b c d e f g:Value} (h:W.heap[B]?=some (.cells #[a,b,c,d,e,f,g] 28 (0,0))):W.cell? ⟨B,0,none⟩=some a∧W.cell? ⟨B,1,none⟩=some b∧W.cell? ⟨B,2,none⟩=some c∧W.cell? ⟨B,3,none⟩=some d∧W.cell? ⟨B,4,none⟩=some e∧W.cell? ⟨B,5,none⟩=some f∧W.cell? ⟨B,6,none⟩=some g:=by
  refine ⟨?_,?_,?_,?_,?_,?_,?_⟩ <;> simp [World.cell?,h]
end Go.Proofs.Ytbnplhmmbnmagaa.D
namespace Go.Proofs.Ytbnplhmmbnmagaa.D
open Go.RowKit Go.Proofs.YtbnplhmmbnmagaaW.PrintWords Go.Proofs.YtbnplhmmbnmagaaW.PrintLast Go.Proofs.YtbnplhmmbnmagaaW.PrintMore Go.Proofs.Ytbnplhmmbnmagaa.All
def cntF:Nat→Int→List Int
  | 0,n=>[n % 256]
  | f+1,n=>if 128≤n then (n % 128+128) :: cntF f (n / 128) else [n % 256]
def aZL (n:Int):List Int:=cntF 9 n
def aZ1 (s:ByteArray):List Int:=aZL s.size++bytesOf s
def bZR (n:Int):List Int:=aZL (if n<0 then -2*n - 1 else 2*n)
def aZp {α:Type} (put:α→List Int) (l:List α):List Int:=aZL l.length++(l.map put).flatten
def aZV (x:S66):List Int:=[x.f0 % 256]++(if (bZG x.f0).1=true then aZL x.f1 else [])++(if (bZG x.f0).2.1=true then aZL x.f2 else [])++(if (bZG x.f0).2.2=true then aZL x.f3 else [])
def encP (g:Pg):List Int:=[66,82,84,1]++aZL g.dep++aZL g.loc++aZp aZ1 g.T++aZp bZR g.N++aZp (aZp aZ1) g.S++aZp (aZp bZR) g.M++aZp aZV g.C
theorem cntF_len:∀ f n,(cntF f n).length≤f+1
  | 0,n=>by simp [cntF]
  | f+1,n=>by
    unfold cntF
    split
    · have:=cntF_len f (n / 128)
      simp only [List.length_cons]
      omega
    · simp
theorem aZZ (n:Int):(aZL n).length≤10:=cntF_len 9 n
theorem bZA {α:Type} (put:α→List Int) (B:Nat) (l:List α) (h:∀ x∈l,(put x).length≤B):(aZp put l).length≤10+l.length*B:=by
  unfold aZp
  have h0:=aZZ l.length
  have:((l.map put).flatten).length≤l.length*B:=by
    clear h0
    induction l with
    | nil=>simp
    | cons a l ih =>
      have h1:=ih (fun x hx=>h x (List.mem_cons_of_mem _ hx))
      have h2:=h a List.mem_cons_self
      simp only [List.map_cons,List.flatten_cons,List.length_append,List.length_cons,Nat.add_mul,Nat.one_mul]
      omega
  rw [List.length_append]
  omega
theorem eZR (s:ByteArray) (h:s.size≤127):(aZ1 s).length≤137:=by
  unfold aZ1
  have:=aZZ s.size
  rw [List.length_append,bZv]
  omega
theorem gZC (x:S66):(aZV x).length≤31:=by
  unfold aZV
  have h1:=aZZ x.f1
  have h2:=aZZ x.f2
  have h3:=aZZ x.f3
  simp only [List.length_append,List.length_cons,List.length_nil]
  split <;> split <;> split <;> (try simp only [List.length_nil]) <;> omega
end Go.Proofs.Ytbnplhmmbnmagaa.D
