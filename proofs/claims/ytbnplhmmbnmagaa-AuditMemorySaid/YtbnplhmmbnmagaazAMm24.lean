/- AuditMemory: rows in ranges of blocks, and what a wipe leaves. -/
import Derived.Test.YtbnplhmmbnmagaazAMm23
import Derived.Test.YtbnplhmmbnmagaazAMm19
import Derived.Test.YtbnplhmmbnmagaazAMm4
set_option maxHeartbeats 4000000
set_option maxRecDepth 100000
set_option linter.all false
namespace Go.Proofs.Ytbnplhmmbnmagaa.D
open Go.RowKit Go.Proofs.YtbnplhmmbnmagaaW.PrintWords Go.Proofs.YtbnplhmmbnmagaaW.PrintLast Go.Proofs.YtbnplhmmbnmagaaW.PrintMore Go.Proofs.Ytbnplhmmbnmagaa.All
def rowT (W:World) (lo hi:Nat) (v:Value) (t size n:Nat):Prop :=
  (v=.slice none 0 0∧n=0)∨∃ b c,∃ cur:Array Value,v=.slice (some ⟨b,0,none⟩) n c∧lo≤b∧b<hi∧W.heap[b]?=some (.cells cur t (0,0))∧n≤c∧c≤maxLen∧cur.size=c*size
theorem rowT_own {W:World} {lo t size n:Nat} {v:Value} {xs:List Value} (h:W.ownsRow lo t size v n xs):rowT W lo W.heap.size v t size n:=by
 rcases h.2 with ⟨h1,h2⟩ | ⟨g,cap,cur,rfl,h1,h2,h3,h4,h5,-⟩
 · exact .inl ⟨h1,h2⟩
 · exact .inr ⟨g,cap,cur,rfl,h1,aZd h2,h2,h3,h4,h5⟩
theorem cZS {α:Type} {d:Kd α} {e lo:Nat} {ok:Nat→Prop} {W:World} {v:Value} {xs:List α} (h:d.R e W lo ok v xs):rowT W lo W.heap.size v e d.sz xs.length:=by
  obtain ⟨inner,ho⟩:=Kd.R_own h
  exact rowT_own ho
theorem rowT.next {W W2:World} {lo hi t size n:Nat} {v:Value} (h:rowT W lo hi v t size n) (hr:∀ (k:Nat) (cells:Array Value) (t:Nat),W.heap[k]?=some (.cells cells t (0,0))→∃ cells':Array Value,W2.heap[k]?=some (.cells cells' t (0,0))∧cells'.size=cells.size):rowT W2 lo hi v t size n:=by
 rcases h with h | ⟨b,c,cur,h1,h2,h3,h4,h5,h6,h7⟩
 · exact .inl h
 ·
  obtain ⟨c1,g1,g2⟩:=hr b cur t h4
  exact .inr ⟨b,c,c1,h1,h2,h3,g1,h5,h6,by omega⟩
theorem rowT.L {W:World} {lo hi t size n base:Nat} {v:Value} (h:rowT W lo hi v t size n):rowL base v.ownBlock W v t size n:=by
 rcases h with h | ⟨b,c,cur,rfl,q2,q3,q4⟩
 · exact .inl h
 · exact .inr ⟨b,c,cur,rfl,.inl rfl,q4⟩
theorem rowT.own {W:World} {lo hi t size n:Nat} {v:Value} (h:rowT W lo hi v t size n):∀ k,some k=v.ownBlock→lo≤k∧k<hi∧∃ cur:Array Value,W.heap[k]?=some (.cells cur t (0,0)):=by
 intro k hk
 rcases h with ⟨rfl,-⟩ | ⟨b,c,cur,rfl,q2,q3,q4,-⟩
 · simp [Value.ownBlock] at hk
 ·
  simp [Value.ownBlock] at hk
  subst hk
  exact ⟨q2,q3,cur,q4⟩
theorem rowT.slice {W:World} {lo hi t size n:Nat} {v:Value} (h:rowT W lo hi v t size n):∃ A c,v=.slice A n c:=by
 rcases h with ⟨rfl,rfl⟩ | ⟨b,c,cur,rfl,-⟩
 · exact ⟨_,_,rfl⟩
 · exact ⟨_,_,rfl⟩
def rowsT (W:World) (lo hi:Nat) (v:Value) (t tin n most:Nat):Prop :=
  (v=.slice none 0 0∧n=0)∨∃ b c,∃ cur:Array Value,v=.slice (some ⟨b,0,none⟩) n c∧lo≤b∧W.heap[b]?=some (.cells cur t (0,0))∧n≤cur.size∧∀ i,i<n→∃ u ni,cur[i]?=some u∧ni≤most∧rowT W lo hi u tin 1 ni
theorem rowsT.slice {W:World} {lo hi t tin n most:Nat} {v:Value} (h:rowsT W lo hi v t tin n most):∃ A c,v=.slice A n c:=by
 rcases h with ⟨rfl,rfl⟩ | ⟨b,c,cur,rfl,-⟩
 · exact ⟨_,_,rfl⟩
 · exact ⟨_,_,rfl⟩
theorem rowsT.next {W W2:World} {lo hi t tin n most:Nat} {v:Value} (h:rowsT W lo hi v t tin n most) (hr:∀ (k:Nat) (cells:Array Value) (t:Nat),W.heap[k]?=some (.cells cells t (0,0))→∃ cells':Array Value,W2.heap[k]?=some (.cells cells' t (0,0))∧cells'.size=cells.size)
 (hs:∀ (k:Nat) (cells:Array Value),lo≤k→W.heap[k]?=some (.cells cells t (0,0))→W2.heap[k]?=W.heap[k]?):rowsT W2 lo hi v t tin n most:=by
 rcases h with h | ⟨b,c,cur,h1,h0,h2,h3,h4⟩
 · exact .inl h
 ·
  refine .inr ⟨b,c,cur,h1,h0,(hs b cur h0 h2).trans h2,h3,fun i hi=>?_⟩
  obtain ⟨u,ni,q1,q2,q3⟩:=h4 i hi
  exact ⟨u,ni,q1,q2,q3.next hr⟩
theorem rowsT.at {W:World} {lo hi t tin n most:Nat} {v:Value} (h:rowsT W lo hi v t tin n most) (i:Nat) (hi':i<n):∃ b c A ni ci,v=.slice (some ⟨b,0,none⟩) n c∧W.cell? ⟨b,i,none⟩=some (.slice A ni ci)∧ni≤most∧rowT W lo hi (.slice A ni ci) tin 1 ni:=by
 rcases h with ⟨-,h⟩ | ⟨b,c,cur,h1,-,h2,h3,h4⟩
 · omega
 ·
  obtain ⟨u,ni,q1,q2,q3⟩:=h4 i hi'
  obtain ⟨A,ci,rfl⟩:=q3.slice
  exact ⟨b,c,A,ni,ci,h1,by rw [cell_of_row W b i cur t (0,0) h2];exact q1,q2,q3⟩
theorem fZL {α:Type} {d:Kd α} {t tin lo most:Nat} {ok:Nat→Prop} {W:World} {v:Value} {xs:List (List α)} (hd:d.sz=1) (h:(Kd.slice tin d).R t W lo ok v xs) (hm:∀ x∈xs,x.length≤most):rowsT W lo W.heap.size v t tin xs.length most:=by
 obtain ⟨-,inner,ho,hreps⟩:=h
 have hsz:(Kd.slice tin d).sz=1:=rfl
 rcases ho.2 with ⟨h1,h2⟩ | ⟨g,cap,cur,rfl,h1,h2,h3,h4,h5,h6⟩
 · exact .inl ⟨h1,h2⟩
 ·
  rw [hsz] at h5 h6
  refine .inr ⟨g,cap,cur,rfl,h1,h2,by omega,fun i hi=>?_⟩
  have hM:=hreps.2 i (xs[i]'hi) (List.getElem?_eq_getElem hi)
  rw [hsz] at hM
  obtain ⟨u,hcs,hu⟩:=hM
  refine ⟨u,(xs[i]'hi).length,?_,hm _ (List.getElem_mem hi),?_⟩
  ·
   have hi2:inner[i]?=some u:=by
    have h0:((inner.drop (i*1)).take 1)[0]?=some u:=by rw [hcs];rfl
    rw [List.getElem?_take] at h0
    simpa using h0
   rw [←h6,List.getElem?_take] at hi2
   split at hi2
   · simpa using hi2
   · cases hi2
  ·
   have hr:=cZS (d:=d) (e:=tin) (v:=u) (xs:=xs[i]'hi) hu
   rw [hd] at hr
   exact hr
theorem R_wz {α:Type} {d:Kd α} {e lo hi base:Nat} {ob:Option Nat} {W W2:World} {v:Value} {xs:List α} (h:d.R e W lo (fun k=>k<hi) v xs) (hz:Wz base ob W W2) (hb:W.heap.size≤base) (hn:∀ k,some k=ob→k<lo∨hi≤k):d.R e W2 lo (fun k=>k<hi) v xs :=
  Kd.R_mono (Kd.R_step (Kd.R_bound h) (fun k hk _=>hz.block k (by have:=hk.2.2.1;omega) (fun e=>by rcases hn k e with h1|h1 <;> have:=hk.1 <;> have:=hk.2.1 <;> omega))) (fun _ hk=>hk.1)
theorem S_wz {α:Type} {d:Kd α} {e lo hi base:Nat} {ob:Option Nat} {W W2:World} {v:Value} {xs:List α} (h:Kd.S d e W lo (fun k=>k<hi) v xs) (hz:Wz base ob W W2) (hb:W.heap.size≤base) (hn:∀ k,some k=ob→k<lo∨hi≤k):Kd.S d e W2 lo (fun k=>k<hi) v xs:=by
  obtain ⟨f,h⟩:=h
  exact ⟨f,R_wz h hz hb hn⟩
theorem small_of {g:Pg} (h:bZ7 g=true):g.T.length≤4096∧g.N.length≤4096∧g.S.length≤4096∧g.M.length≤4096∧g.C.length≤32768∧(∀ x∈g.S,x.length≤1000)∧(∀ x∈g.M,x.length≤1000):=by
  obtain ⟨F1,F2,F3,F4,F5,F6,F7,F8,F9⟩:=dZz h
  exact ⟨by omega,by omega,by omega,by omega,by omega,fun x hx=>(F7 x hx).1,fun x hx=>(F8 x hx).1⟩
theorem pgR_small (bs:List Int) (G:Good bs):(pgR (aZE bs)).T.length≤4096∧(pgR (aZE bs)).N.length≤4096∧(pgR (aZE bs)).S.length≤4096∧(pgR (aZE bs)).M.length≤4096∧(pgR (aZE bs)).C.length≤32768∧(∀ x∈(pgR (aZE bs)).S,x.length≤1000)∧(∀ x∈(pgR (aZE bs)).M,x.length≤1000):=by
  have z:Pg0.T.length≤4096∧Pg0.N.length≤4096∧Pg0.S.length≤4096∧Pg0.M.length≤4096∧Pg0.C.length≤32768∧(∀ x∈Pg0.S,x.length≤1000)∧(∀ x∈Pg0.M,x.length≤1000):=⟨by decide,by decide,by decide,by decide,by decide,(fun x hx=>absurd hx List.not_mem_nil),(fun x hx=>absurd hx List.not_mem_nil)⟩
  cases hp:aZJ bs with
  | error f=>obtain ⟨k,q⟩:=f;rw [cZJ hp];exact z
  | ok gq =>
    obtain ⟨g,q⟩:=gq
    obtain ⟨hf,-⟩:=dZh bs G.byte g q hp
    cases ha:aZt g with
    | error f=>rw [cZK hp ha];exact z
    | ok tm=>obtain ⟨t,m⟩:=tm;rw [cZI hp ha];exact small_of hf
structure XRows (W:World) (lo hi:Nat) (g:Pg) (vT vN vS vM vC:Value):Prop where
  T:rowT W lo hi vT 9 1 g.T.length
  N:rowT W lo hi vN 3 1 g.N.length
  S:rowsT W lo hi vS 22 9 g.S.length 1000
  M:rowsT W lo hi vM 23 3 g.M.length 1000
  C:rowT W lo hi vC 66 4 g.C.length
theorem xrows_of {W:World} {lo:Nat} {g:Pg} {v:Value} (h:IsPg lo g v W) (hS:∀ x∈g.S,x.length≤1000) (hM:∀ x∈g.M,x.length≤1000):∃ vT vN vS vM vC,v=.agg #[vT,vN,vS,vM,vC,.int .i64 g.dep,.int .i64 g.loc]∧XRows W lo W.heap.size g vT vN vS vM vC:=by
  obtain ⟨vT,vN,vS,vM,vC,h0,h1,h2,h3,h4,h5⟩:=h
  exact ⟨vT,vN,vS,vM,vC,h0,cZS h1,cZS h2,fZL rfl h3 hS,fZL rfl h4 hM,cZS h5⟩
theorem XRows.next {W W2:World} {lo hi:Nat} {g:Pg} {vT vN vS vM vC:Value} (h:XRows W lo hi g vT vN vS vM vC) (hr:∀ (k:Nat) (cells:Array Value) (t:Nat),W.heap[k]?=some (.cells cells t (0,0))→∃ cells':Array Value,W2.heap[k]?=some (.cells cells' t (0,0))∧cells'.size=cells.size)
    (hs:∀ (k:Nat) (cells:Array Value) (t:Nat),t=22∨t=23→lo≤k→W.heap[k]?=some (.cells cells t (0,0))→W2.heap[k]?=W.heap[k]?):XRows W2 lo hi g vT vN vS vM vC :=
  ⟨h.T.next hr,h.N.next hr,h.S.next hr (fun k cells hk hc=>hs k cells 22 (.inl rfl) hk hc),h.M.next hr (fun k cells hk hc=>hs k cells 23 (.inr rfl) hk hc),h.C.next hr⟩
theorem XRows.below {W W2:World} {lo hi:Nat} {g:Pg} {vT vN vS vM vC:Value} (h:XRows W lo hi g vT vN vS vM vC) (hb:Below W.heap.size W W2):XRows W2 lo hi g vT vN vS vM vC :=
  h.next (Wq.below (may:=fun _=>False) hb).row (fun k cells t _ _ hc=>hb.block k (aZd hc))
theorem XRows.wq {W W2:World} {lo hi:Nat} {g:Pg} {vT vN vS vM vC:Value} {may:Nat→Prop} (h:XRows W lo hi g vT vN vS vM vC) (hq:Wq may W W2) (hm:∀ k,may k→k<lo):XRows W2 lo hi g vT vN vS vM vC :=
  h.next hq.row (fun k cells t _ hk hc=>hq.block k (aZd hc) (fun hh=>by have:=hm k hh;omega))
theorem XRows.wz {W W2:World} {lo hi lo2 hi2 t size n:Nat} {g:Pg} {vT vN vS vM vC v:Value} (h:XRows W lo hi g vT vN vS vM vC) (hv:rowT W lo2 hi2 v t size n) (ht:t≠22∧t≠23) (hz:Wz W.heap.size v.ownBlock W W2):XRows W2 lo hi g vT vN vS vM vC :=
  h.next hz.row (fun k cells t' h' hk hc => hz.block k (aZd hc) (fun e => by
    obtain ⟨-,-,cur,h3⟩:=hv.own k e
    rw [h3] at hc
    injection hc with hc
    injection hc with _ h4
    exact h'.elim (fun h'=>ht.1 (h4.trans h')) (fun h'=>ht.2 (h4.trans h'))))
theorem eZt {W W2:World} {lo hi t size n k t2:Nat} {v:Value} {cells:Array Value} (hv:rowT W lo hi v t size n) (hz:Wz W.heap.size v.ownBlock W W2) (hk:W.heap[k]?=some (.cells cells t2 (0,0))) (ht:t2≠t):W2.heap[k]?=some (.cells cells t2 (0,0)) :=
  (hz.block k (aZd hk) (fun e => by
    obtain ⟨-,-,cur,h3⟩:=hv.own k e
    rw [h3] at hk
    injection hk with hk
    injection hk with _ h4
    exact ht h4.symm)).trans hk
theorem hZn {w W W2:World} {lo hi t size n:Nat} {v:Value} (hb:Below w.heap.size w W) (hv:rowT W lo hi v t size n) (hlo:w.heap.size≤lo) (hz:Wz W.heap.size v.ownBlock W W2):Below w.heap.size w W2 :=
  ⟨hz.os.trans hb.os,hz.tape.trans hb.tape,hz.output.trans hb.output,Nat.le_trans hb.size hz.size,fun k hk=>(hz.block k (Nat.lt_of_lt_of_le hk hb.size) (fun e=>by have:=(hv.own k e).1;omega)).trans (hb.block k hk)⟩
theorem wq_below {w W W2:World} {may:Nat→Prop} (hb:Below w.heap.size w W) (hq:Wq may W W2) (hm:∀ k,may k→w.heap.size≤k):Below w.heap.size w W2 :=
  ⟨hq.os.trans hb.os,hq.tape.trans hb.tape,hq.output.trans hb.output,Nat.le_trans hb.size hq.size,fun k hk=>(hq.block k (Nat.lt_of_lt_of_le hk hb.size) (fun e=>by have:=hm k e;omega)).trans (hb.block k hk)⟩
def IsPgU (lo hi:Nat) (g:Pg) (A0 A1 A2 A3 A4:Option Addr) (c0 c1 c2 c3 c4:Nat) (W:World):Prop :=
  Kd.string.R 9 W lo (fun k=>k<hi) (.slice A0 g.T.length c0) g.T∧(Kd.int .i64).R 3 W lo (fun k=>k<hi) (.slice A1 g.N.length c1) g.N∧(Kd.slice 9 Kd.string).R 22 W lo (fun k=>k<hi) (.slice A2 g.S.length c2) g.S∧(Kd.slice 3 (Kd.int .i64)).R 23 W lo (fun k=>k<hi) (.slice A3 g.M.length c3) g.M∧k66.R 66 W lo (fun k=>k<hi) (.slice A4 g.C.length c4) g.C
theorem hZk {α:Type} {d:Kd α} {e lo:Nat} {ok:Nat→Prop} {W:World} {v:Value} {xs:List α} (h:d.R e W lo ok v xs):d.R e W lo (fun k=>k<W.heap.size) v xs:=Kd.R_mono (Kd.R_bound h) (fun _ hk=>hk.2.2.1)
theorem S_top {α:Type} {d:Kd α} {e lo:Nat} {ok:Nat→Prop} {W:World} {v:Value} {xs:List α} (h:Kd.S d e W lo ok v xs):Kd.S d e W lo (fun k=>k<W.heap.size) v xs:=by
  obtain ⟨f,h⟩:=h
  exact ⟨f,hZk h⟩
theorem IsPgU.of {lo:Nat} {g:Pg} {v:Value} {W:World} (h:IsPg lo g v W):∃ A0 A1 A2 A3 A4 c0 c1 c2 c3 c4,v=aZ6 A0 A1 A2 A3 A4 c0 c1 c2 c3 c4 g∧IsPgU lo W.heap.size g A0 A1 A2 A3 A4 c0 c1 c2 c3 c4 W:=by
  obtain ⟨vT,vN,vS,vM,vC,rfl,h1,h2,h3,h4,h5⟩:=h
  obtain ⟨A0,c0,rfl⟩:=Kd.R_slice h1
  obtain ⟨A1,c1,rfl⟩:=Kd.R_slice h2
  obtain ⟨A2,c2,rfl⟩:=Kd.R_slice h3
  obtain ⟨A3,c3,rfl⟩:=Kd.R_slice h4
  obtain ⟨A4,c4,rfl⟩:=Kd.R_slice h5
  exact ⟨A0,A1,A2,A3,A4,c0,c1,c2,c3,c4,rfl,hZk h1,hZk h2,hZk h3,hZk h4,hZk h5⟩
section
variable {lo hi:Nat} {g:Pg} {A0 A1 A2 A3 A4:Option Addr} {c0 c1 c2 c3 c4:Nat} {W W2:World}
theorem IsPgU.below (h:IsPgU lo hi g A0 A1 A2 A3 A4 c0 c1 c2 c3 c4 W) (hb:Below W.heap.size W W2):IsPgU lo hi g A0 A1 A2 A3 A4 c0 c1 c2 c3 c4 W2 :=
  ⟨Kd.R_below h.1 hb,Kd.R_below h.2.1 hb,Kd.R_below h.2.2.1 hb,Kd.R_below h.2.2.2.1 hb,Kd.R_below h.2.2.2.2 hb⟩
theorem IsPgU.pg (h:IsPgU lo hi g A0 A1 A2 A3 A4 c0 c1 c2 c3 c4 W):InPg W A0 A1 A2 A3 A4 c0 c1 c2 c3 c4 g :=
  ⟨(Kd.R_reads' h.1).2.2,(Kd.R_reads' h.2.1).2.2,(Kd.R_reads' h.2.2.1).2.2,(Kd.R_reads' h.2.2.2.1).2.2,(Kd.R_reads' h.2.2.2.2).2.2,(Kd.R_reads' h.1).2.1,(Kd.R_reads' h.2.1).2.1,(Kd.R_reads' h.2.2.1).2.1,(Kd.R_reads' h.2.2.2.1).2.1,(Kd.R_reads' h.2.2.2.2).2.1⟩
theorem IsPgU.wz {base:Nat} {ob:Option Nat} (h:IsPgU lo hi g A0 A1 A2 A3 A4 c0 c1 c2 c3 c4 W) (hz:Wz base ob W W2) (hb:W.heap.size≤base) (hn:∀ k,some k=ob→k<lo∨hi≤k):IsPgU lo hi g A0 A1 A2 A3 A4 c0 c1 c2 c3 c4 W2 :=
  ⟨R_wz h.1 hz hb hn,R_wz h.2.1 hz hb hn,R_wz h.2.2.1 hz hb hn,R_wz h.2.2.2.1 hz hb hn,R_wz h.2.2.2.2 hz hb hn⟩
theorem R_wq {α:Type} {d:Kd α} {e:Nat} {may:Nat→Prop} {v:Value} {xs:List α} (h:d.R e W lo (fun k=>k<hi) v xs) (hq:Wq may W W2) (hn:∀ k,may k→k<lo∨hi≤k):d.R e W2 lo (fun k=>k<hi) v xs :=
  Kd.R_mono (Kd.R_step (Kd.R_bound h) (fun k hk _=>hq.block k hk.2.2.1 (fun e=>by rcases hn k e with h1|h1 <;> have:=hk.1 <;> have:=hk.2.1 <;> omega))) (fun _ hk=>hk.1)
theorem S_wq {α:Type} {d:Kd α} {e:Nat} {may:Nat→Prop} {v:Value} {xs:List α} (h:Kd.S d e W lo (fun k=>k<hi) v xs) (hq:Wq may W W2) (hn:∀ k,may k→k<lo∨hi≤k):Kd.S d e W2 lo (fun k=>k<hi) v xs:=by
  obtain ⟨f,h⟩:=h
  exact ⟨f,R_wq h hq hn⟩
theorem IsPgU.wq {may:Nat→Prop} (h:IsPgU lo hi g A0 A1 A2 A3 A4 c0 c1 c2 c3 c4 W) (hq:Wq may W W2) (hn:∀ k,may k→k<lo∨hi≤k):IsPgU lo hi g A0 A1 A2 A3 A4 c0 c1 c2 c3 c4 W2 :=
  ⟨R_wq h.1 hq hn,R_wq h.2.1 hq hn,R_wq h.2.2.1 hq hn,R_wq h.2.2.2.1 hq hn,R_wq h.2.2.2.2 hq hn⟩
end
theorem bytes_row {W:World} {base:Nat} {ok:Nat→Prop} {v:Value} {xs:List Int} (h:(Kd.int .u8).R 5 W base ok v xs) (hx:0<xs.length):∃ (Bb cB:Nat) (cur:Array Value),v=.slice (some ⟨Bb,0,none⟩) xs.length cB∧base≤Bb∧W.heap[Bb]?=some (.cells cur 5 (0,0))∧xs.length≤cB∧cB≤maxLen∧cur.size=cB:=by
 rcases cZS h with ⟨-,h0⟩ | ⟨b,c,cur,h1,h2,h3,h4,h5,h6,h7⟩
 · omega
 · exact ⟨b,c,cur,h1,h2,h4,h5,h6,by simpa [Kd.int,Kd.scalar] using h7⟩
structure Qst (W:World) (lo X5 Bb cB:Nat) (D0 D1 D2 D3 D4:Option Addr) (d0 d1 d2 d3 d4:Nat) (g:Pg) (bs:List Int):Prop where
  T:Kd.string.R 9 W lo (fun _=>True) (.slice D0 g.T.length d0) g.T
  N:(Kd.int .i64).R 3 W lo (fun _=>True) (.slice D1 g.N.length d1) g.N
  S:(Kd.slice 9 Kd.string).R 22 W lo (fun _=>True) (.slice D2 g.S.length d2) g.S
  M:(Kd.slice 3 (Kd.int .i64)).R 23 W lo (fun _=>True) (.slice D3 g.M.length d3) g.M
  C:k66.R 66 W lo (fun _=>True) (.slice D4 g.C.length d4) g.C
  box:W.heap[X5]?=some (.cells #[.slice D0 g.T.length d0,.slice D1 g.N.length d1,.slice D2 g.S.length d2,.slice D3 g.M.length d3,.slice D4 g.C.length d4,.int .i64 g.dep,.int .i64 g.loc] 28 (0,0))
  B:Kd.C (Kd.int .u8) W (some ⟨Bb,0,none⟩) (bs.length+2) (bs++[170,187])
  rowB:∃ cur:Array Value,W.heap[Bb]?=some (.cells cur 5 (0,0))∧cur.size=cB
section
variable {w W W2:World} {lo X5 Bb cB:Nat} {D0 D1 D2 D3 D4:Option Addr} {d0 d1 d2 d3 d4:Nat} {g:Pg} {bs:List Int}
theorem Qst.next (h:Qst W lo X5 Bb cB D0 D1 D2 D3 D4 d0 d1 d2 d3 d4 g bs) (hb:Below W.heap.size W W2):Qst W2 lo X5 Bb cB D0 D1 D2 D3 D4 d0 d1 d2 d3 d4 g bs:=by
  obtain ⟨cur,h1,h2⟩:=h.rowB
  exact ⟨Kd.R_below h.T hb,Kd.R_below h.N hb,Kd.R_below h.S hb,Kd.R_below h.M hb,Kd.R_below h.C hb,aZc h.box hb,Kd.C_below h.B hb,⟨cur,aZc h1 hb,h2⟩⟩
theorem Qst.pg (h:Qst W lo X5 Bb cB D0 D1 D2 D3 D4 d0 d1 d2 d3 d4 g bs):InPg W D0 D1 D2 D3 D4 d0 d1 d2 d3 d4 g :=
  ⟨(Kd.R_reads' h.T).2.2,(Kd.R_reads' h.N).2.2,(Kd.R_reads' h.S).2.2,(Kd.R_reads' h.M).2.2,(Kd.R_reads' h.C).2.2,(Kd.R_reads' h.T).2.1,(Kd.R_reads' h.N).2.1,(Kd.R_reads' h.S).2.1,(Kd.R_reads' h.M).2.1,(Kd.R_reads' h.C).2.1⟩
theorem Qst.bytes (h:Qst W lo X5 Bb cB D0 D1 D2 D3 D4 d0 d1 d2 d3 d4 g bs):Kd.C (Kd.int .u8) W (some ⟨Bb,0,none⟩) bs.length bs:=by
  have h0:=h.B
  rw [show bs.length+2=(bs++[170,187]:List Int).length by simp] at h0
  have h1:=Kd.C_take (m:=bs.length) h0 (by simp)
  simpa using h1
theorem Qst.cell (h:Qst W lo X5 Bb cB D0 D1 D2 D3 D4 d0 d1 d2 d3 d4 g bs) (j:Nat) (x:Int) (hx:(bs++[170,187])[j]?=some x):W.cell? ⟨Bb,j,none⟩=some (.int .u8 x):=by
  obtain ⟨h1,h2,h3⟩:=h.B
  obtain ⟨ad,ha,hc⟩:=h3 (by omega)
  injection ha with ha
  subst ha
  obtain ⟨c,c1,c2,c3⟩:=hc j x hx
  obtain rfl:c=[.int .u8 x]:=c2
  have h0:=c3 0 _ rfl
  rw [cZ9] at h0
  simpa [Kd.int,Kd.scalar] using h0
def mayT (W:World) (lo hi:Nat) (k:Nat):Prop:=lo≤k∧k<hi∧∃ (cur:Array Value) (t:Nat),W.heap[k]?=some (.cells cur t (0,0))∧(t=66∨t=5)
theorem Qst.anew (h:Qst W lo X5 Bb cB D0 D1 D2 D3 D4 d0 d1 d2 d3 d4 g bs) (hi:Nat) (hc:k66.R 66 W lo (fun k=>k<hi) (.slice D4 g.C.length d4) g.C) (hle:bs.length≤cB) {may:Nat→Prop} (hm:∀ (k:Nat) (cur:Array Value),lo≤k→k<hi→W.heap[k]?=some (.cells cur 66 (0,0))→may k) (X:Nat) (W':World) (hb:Below W.heap.size W W')
 (hX:W'.heap[X]?=some (.cells #[.slice D0 g.T.length d0,.slice D1 g.N.length d1,.slice D2 g.S.length d2,.slice D3 g.M.length d3,.slice D4 g.C.length d4,.int .i64 g.dep,.int .i64 g.loc] 28 (0,0))):StA lo may W W' X Bb cB D0 D1 D2 D3 D4 d0 d1 d2 d3 d4 g bs:=by
 have h2:=h.next hb
 obtain ⟨cur,q1,q2⟩:=h2.rowB
 refine ⟨Wq.below hb,hX,h2.T,h2.N,h2.S,h2.M,(Kd.R_reads' h2.C).2.2,(Kd.R_reads' h2.C).2.1,fun hpos=>?_,⟨cur,q1,by omega⟩,h2.bytes⟩
 rcases cZS hc with ⟨-,h0⟩ | ⟨b,c,cur4,e1,e2,e3,e4,-⟩
 · omega
 ·
  injection e1 with e1 _ _
  exact ⟨b,cur4,e1,hm b cur4 e2 (hc.1 b (by rw [e1];rfl)) e4,aZc e4 hb⟩
end
structure Mst (w W:World) (lo lx hx ly hy sa sb sc Bb n cB:Nat) (A0 A1 A2 A3 A4:Option Addr) (c0 c1 c2 c3 c4:Nat) (g:Pg) (E0 E1 E2 E3 E4:Option Addr) (e0 e1 e2 e3 e4:Nat) (F0 F1 F2 F3 F4:Option Addr) (f0 f1 f2 f3 f4:Nat) (gb:Pg) (Al Am:Option Addr) (cl cm:Nat) (told:List (List Int)):Prop where
  below:Below w.heap.size w W
  boxP:W.heap[w.heap.size]?=some (.cells #[.slice A0 g.T.length c0,.slice A1 g.N.length c1,.slice A2 g.S.length c2,.slice A3 g.M.length c3,.slice A4 g.C.length c4,.int .i64 g.dep,.int .i64 g.loc] 28 (0,0))
  x:XRows W lx hx gb (.slice E0 gb.T.length e0) (.slice E1 gb.N.length e1) (.slice E2 gb.S.length e2) (.slice E3 gb.M.length e3) (.slice E4 gb.C.length e4)
  boxX:W.heap[hx]?=some (.cells #[.slice E0 gb.T.length e0,.slice E1 gb.N.length e1,.slice E2 gb.S.length e2,.slice E3 gb.M.length e3,.slice E4 gb.C.length e4,.int .i64 gb.dep,.int .i64 gb.loc] 28 (0,0))
  y:IsPgU ly hy gb F0 F1 F2 F3 F4 f0 f1 f2 f3 f4 W
  boxY:W.heap[hy]?=some (.cells #[.slice F0 gb.T.length f0,.slice F1 gb.N.length f1,.slice F2 gb.S.length f2,.slice F3 gb.M.length f3,.slice F4 gb.C.length f4,.int .i64 gb.dep,.int .i64 gb.loc] 28 (0,0))
  l:rowsT W sa sb (.slice Al told.length cl) 51 73 told.length 100000
  m:Kd.S told2 51 W sb (fun k=>k<sc) (.slice Am told.length cm) told
  bt:rowT W lo lx (.slice (some ⟨Bb,0,none⟩) n cB) 5 1 n
  ord:w.heap.size<lo∧lo≤lx∧lx≤hx∧hx≤ly∧ly≤hy∧hy≤sa∧sa≤sb∧sb≤sc∧sc≤W.heap.size
section
variable {w W W2:World} {lo lx hx ly hy sa sb sc Bb n cB:Nat} {A0 A1 A2 A3 A4:Option Addr} {c0 c1 c2 c3 c4:Nat} {g:Pg} {E0 E1 E2 E3 E4:Option Addr} {e0 e1 e2 e3 e4:Nat} {F0 F1 F2 F3 F4:Option Addr} {f0 f1 f2 f3 f4:Nat} {gb:Pg} {Al Am:Option Addr} {cl cm:Nat} {told:List (List Int)}
theorem Mst.next (h:Mst w W lo lx hx ly hy sa sb sc Bb n cB A0 A1 A2 A3 A4 c0 c1 c2 c3 c4 g E0 E1 E2 E3 E4 e0 e1 e2 e3 e4 F0 F1 F2 F3 F4 f0 f1 f2 f3 f4 gb Al Am cl cm told) (hb:Below W.heap.size W W2):Mst w W2 lo lx hx ly hy sa sb sc Bb n cB A0 A1 A2 A3 A4 c0 c1 c2 c3 c4 g E0 E1 E2 E3 E4 e0 e1 e2 e3 e4 F0 F1 F2 F3 F4 f0 f1 f2 f3 f4 gb Al Am cl cm told :=
  have hr:=(Wq.below (may:=fun _=>False) hb).row
  ⟨h.below.trans (hb.mono h.below.size),aZc h.boxP hb,h.x.below hb,aZc h.boxX hb,h.y.below hb,aZc h.boxY hb,h.l.next hr (fun k cells _ hc=>hb.block k (aZd hc)),Kd.S_below h.m hb,h.bt.next hr,by have:=h.ord;have:=hb.size;omega⟩
theorem Mst.wz (h:Mst w W lo lx hx ly hy sa sb sc Bb n cB A0 A1 A2 A3 A4 c0 c1 c2 c3 c4 g E0 E1 E2 E3 E4 e0 e1 e2 e3 e4 F0 F1 F2 F3 F4 f0 f1 f2 f3 f4 gb Al Am cl cm told) {l2 h2 t size k:Nat} {v:Value} (hv:rowT W l2 h2 v t size k) (ht:t≠22∧t≠23∧t≠28∧t≠51) (hl:lo≤l2) (hy':h2≤ly∨hy≤l2) (hm':h2≤sb∨sc≤l2) (hz:Wz W.heap.size v.ownBlock W W2) :
 Mst w W2 lo lx hx ly hy sa sb sc Bb n cB A0 A1 A2 A3 A4 c0 c1 c2 c3 c4 g E0 E1 E2 E3 E4 e0 e1 e2 e3 e4 F0 F1 F2 F3 F4 f0 f1 f2 f3 f4 gb Al Am cl cm told:=by
 have ho:=h.ord
 refine ⟨hZn h.below hv (by omega) hz,eZt hv hz h.boxP (Ne.symm ht.2.2.1),h.x.wz hv ⟨ht.1,ht.2.1⟩ hz,eZt hv hz h.boxX (Ne.symm ht.2.2.1),h.y.wz hz (Nat.le_refl _) (fun q hq=>?_),eZt hv hz h.boxY (Ne.symm ht.2.2.1),h.l.next hz.row (fun q cells _ hc=>?_),S_wz h.m hz (Nat.le_refl _) (fun q hq=>?_),h.bt.next hz.row,?_⟩
 ·
  obtain ⟨q1,q2,-⟩:=hv.own q hq
  rcases hy' with hy'|hy' <;> omega
 · exact (eZt hv hz hc (Ne.symm ht.2.2.2)).trans hc.symm
 ·
  obtain ⟨q1,q2,-⟩:=hv.own q hq
  rcases hm' with hm'|hm' <;> omega
 ·
  have:=hz.size
  omega
end
theorem row_at2 {e:Nat} {W:World} {A:Option Addr} {tl:List (List Int)} (h:(Kd.slice e (Kd.int .i64)).C W A tl.length tl) (p:Nat) (hp:p<tl.length) :
    ∃ ad,A=some ad∧∃ Ar cr,W.cell? (ad.add p)=some (.slice Ar (tl.getD p []).length cr)∧(tl.getD p []).length≤cr∧Kd.C (Kd.int .i64) W Ar (tl.getD p []).length (tl.getD p []):=by
  obtain ⟨ad,cs,he,-,⟨Ar,cr,rfl,hl,hC⟩,hc⟩:=Kd.C_get h [] (p:Int) (by omega) (by omega)
  have h0:=hc 0 _ rfl
  rw [Int.toNat_natCast] at h0 hl hC
  rw [show p*(Kd.slice e (Kd.int .i64)).sz+0=p by simp [Kd.slice]] at h0
  exact ⟨ad,he,Ar,cr,h0,hl,hC⟩
def MRow (W:World) (sb sc:Nat) (f:Nat→Nat) (Am:Option Addr) (told:List (List Int)) (j:Nat):Prop :=
  ∀ i,j≤i→i<told.length→∃ b u,∃ cur:Array Value,Am=some ⟨b,0,none⟩∧W.heap[b]?=some (.cells cur 51 (0,0))∧cur[i]?=some u∧(Kd.int .i64).R 73 W sb (fun k=>k<sc∧f k=i) u (told.getD i [])
theorem MRow.start {W:World} {sb sc cm:Nat} {Am:Option Addr} {told:List (List Int)} (h:Kd.S told2 51 W sb (fun k=>k<sc) (.slice Am told.length cm) told):∃ f,MRow W sb sc f Am told 0:=by
 obtain ⟨f,-,inner,ho,hr⟩:=h
 refine ⟨f,fun i _ hi=>?_⟩
 rw [List.length_zipIdx] at ho
 rcases ho.2 with ⟨h1,h2⟩ | ⟨g,cap,cur,h0,h1,h2,h3,h4,h5,h6⟩
 · omega
 injection h0 with h0 _ _
 have hM:=hr.2 i (told[i]'hi,i) (Kd.zip_at (List.getElem?_eq_getElem hi))
 obtain ⟨u,hcs,hu⟩:=hM
 have hsz:(Kd.tag f told2).sz=1:=rfl
 rw [hsz] at hcs h5 h6
 refine ⟨g,u,cur,h0,h2,?_,?_⟩
 ·
  have hi2:inner[i]?=some u:=by
   have h7:((inner.drop (i*1)).take 1)[0]?=some u:=by rw [hcs];rfl
   rw [List.getElem?_take] at h7
   simpa using h7
  rw [←h6,List.getElem?_take] at hi2
  split at hi2
  · simpa using hi2
  · cases hi2
 ·
  rw [List.getD_eq_getElem?_getD,List.getElem?_eq_getElem hi]
  exact Kd.R_mono hu (fun k hk=>⟨hk.1.1,hk.2⟩)
theorem MRow.at {W:World} {sb sc j:Nat} {f:Nat→Nat} {Am:Option Addr} {told:List (List Int)} (h:MRow W sb sc f Am told j) (hj:j<told.length):∃ b A c,Am=some ⟨b,0,none⟩∧W.cell? ⟨b,j,none⟩=some (.slice A (told.getD j []).length c)∧(Kd.int .i64).R 73 W sb (fun k=>k<sc∧f k=j) (.slice A (told.getD j []).length c) (told.getD j []):=by
  obtain ⟨b,u,cur,h1,h2,h3,h4⟩:=h j (Nat.le_refl _) hj
  obtain ⟨A,c,rfl⟩:=Kd.R_slice h4
  exact ⟨b,A,c,h1,by rw [cell_of_row W b j cur 51 (0,0) h2];exact h3,h4⟩
theorem MRow.grow {W W2:World} {sb sc j:Nat} {f:Nat→Nat} {Am:Option Addr} {told:List (List Int)} (h:MRow W sb sc f Am told j) (hb:Below W.heap.size W W2):MRow W2 sb sc f Am told j:=by
  intro i h1 h2
  obtain ⟨b,u,cur,e1,e2,e3,e4⟩:=h i h1 h2
  exact ⟨b,u,cur,e1,aZc e2 hb,e3,Kd.R_below e4 hb⟩
theorem MRow.wipe {W W2:World} {sb sc j:Nat} {f:Nat→Nat} {Am:Option Addr} {told:List (List Int)} {v:Value} {xs:List Int} (h:MRow W sb sc f Am told j) (hv:(Kd.int .i64).R 73 W sb (fun k=>k<sc∧f k=j) v xs) (hz:Wz W.heap.size v.ownBlock W W2):MRow W2 sb sc f Am told (j+1):=by
  intro i h1 h2
  obtain ⟨b,u,cur,e1,e2,e3,e4⟩:=h i (by omega) h2
  refine ⟨b,u,cur,e1,eZt (cZS hv) hz e2 (by decide),e3,?_⟩
  exact Kd.R_step e4 (fun k hk hlt=>hz.block k hlt (fun e=>by have:=(hv.1 k e.symm).2;have:=hk.2;omega))
theorem wipe25 (w:World) (v:Value) (mk:Int) (n:Nat) (h:rowL w.heap.size v.ownBlock w v 3 1 n) (hn:(n+80)*8≤140737488355328) :
 Calls Try.prog 25 #[v,.int .i64 mk] w fun e w'=>(∃ x,e=.returned x)∧Wz w.heap.size v.ownBlock w w':=by
 obtain ⟨ob,hob⟩:∃ ob,ob=v.ownBlock:=⟨_,rfl⟩
 rw [←hob] at h ⊢
 clear hob
 obtain ⟨A,c,hv⟩:∃ A c,v=.slice A n c:=by
  rcases h with ⟨h1,h2⟩ | ⟨b,c,cur,h1,-⟩
  · subst h2;exact ⟨none,0,h1⟩
  · exact ⟨_,_,h1⟩
 subst hv
 have HR:=hid_ h
 clear h
 go_enter Try.func25,Try.ntmps25
 go_wp2_with (fail)
 go_loopw [9] (fun s9 wr=>∃ j:Nat,s9=.int .i64 j∧j≤n∧Wz w.heap.size ob w wr) (fun s9 _=>n - (intOf s9).toNat)
 case atStart=>exact ⟨0,rfl,Nat.zero_le _,Wz.refl _ _ _⟩
 case round =>
  obtain ⟨j,rfl,hj,hw⟩:=hrel
  by_cases hlt:j<n
  ·
   rcases HR.out.next hw with ⟨h1,h2⟩ | ⟨b,c2,cur,h1,hb,hh,hnc,hcm,hsz⟩
   · omega
   simp only [Value.slice.injEq] at h1
   obtain ⟨rfl,-,rfl⟩:=h1
   have hjc:j<cur.size:=by omega
   have y0:wr.cell? ⟨b,j,none⟩=some cur[j]:=cZv hh hjc
   have y1:=aZf hh j
   have i0:(0:Int)≤(j:Int):=by omega
   have i1:(j:Int)<(n:Int):=by omega
   have HW:=hid_ (hw.trans (Wz.set (i:=j) hh hb (.int .i64 mk)))
   clear hw hh hb hnc hcm hsz
   generalize cur[j]=cj at y0
   go_wp2_with (fail)
   go_roundw
   case rel=>exact ⟨j+1,by go_num,hlt,HW.out⟩
   case measure=>simp [intOf];omega
  ·
   have hge:¬(j:Int)<(n:Int):=by omega
   have HW:=hid_ hw
   clear hw hlt
   go_wp2_with (fail)
   go_loopw [5,6] (fun s5 s6 wx=>∃ j:Nat,s6=.int .i64 j∧j≤80∧rowL w.heap.size ob wx s5 3 1 (n+j)∧Wz w.heap.size ob w wx) (fun _ s6 _=>80 - (intOf s6).toNat)
   case atStart=>exact ⟨0,rfl,by omega,HR.out.next HW.out,HW.out⟩
   case round =>
    obtain ⟨q,rfl,hq,hrow,hw⟩:=hrel
    by_cases hlt:q<80
    ·
     have i1:(q:Int)<80:=by omega
     have HROW:=hid_ hrow
     have HW2:=hid_ hw
     have hsz:=hw.size
     have b2:(n+q+1)*8≤140737488355328:=Nat.le_trans (Nat.mul_le_mul_right 8 (show n+q+1≤n+80 from Nat.add_le_add_left hlt n)) hn
     have b1:n+q+1≤maxLen:=Nat.le_trans (Nat.le_trans (Nat.le_mul_of_pos_right _ (by decide)) b2) (by decide)
     have HB:=hid_ (And.intro b1 (And.intro b2 hsz))
     clear hrow hw b1 b2 hsz
     go_wp2_with ((with_reducible refine aZh (b:=.append) (xs:=#[.tmp 22,.tmp 24]) rfl ?_);at_builtin;refine dZS w.heap.size ob rfl (.tmp 22) (.tmp 24) 23 3 (.int .i64 0) 1 8 rfl Try.underlying23 info3 rfl (by decide) u5 (n+q) [.int .i64 mk] rfl rfl rfl (by simp [Value.oneCell']) HROW.out HB.out.1 HB.out.2.1 HB.out.2.2 ?_;intro v2 w2 hr2 hw2)
     have HW3:=hid_ (HW2.out.trans hw2)
     have HR3:=hid_ hr2
     clear hr2 hw2 HW2 HROW
     go_roundw
     case rel=>exact ⟨q+1,by go_num,hlt,HR3.out,HW3.out⟩
     case measure=>simp [intOf];omega
    ·
     have hge:¬(q:Int)<80:=by omega
     have HW2:=hid_ hw
     clear hw hrow hlt
     go_wp2_with (fail)
     go_end0
     exact ⟨⟨_,rfl⟩,HW2.out⟩
theorem wipe23 (w:World) (v:Value) (mk:Int) (n:Nat) (h:rowL w.heap.size v.ownBlock w v 73 1 n) (hn:(n+80)*8≤140737488355328) :
 Calls Try.prog 23 #[v,.int .i64 mk] w fun e w'=>(∃ x,e=.returned x)∧Wz w.heap.size v.ownBlock w w':=by
 obtain ⟨ob,hob⟩:∃ ob,ob=v.ownBlock:=⟨_,rfl⟩
 rw [←hob] at h ⊢
 clear hob
 obtain ⟨A,c,hv⟩:∃ A c,v=.slice A n c:=by
  rcases h with ⟨h1,h2⟩ | ⟨b,c,cur,h1,-⟩
  · subst h2;exact ⟨none,0,h1⟩
  · exact ⟨_,_,h1⟩
 subst hv
 have HR:=hid_ h
 clear h
 go_enter Try.func23,Try.ntmps23
 go_wp2_with (fail)
 go_loopw [9] (fun s9 wr=>∃ j:Nat,s9=.int .i64 j∧j≤n∧Wz w.heap.size ob w wr) (fun s9 _=>n - (intOf s9).toNat)
 case atStart=>exact ⟨0,rfl,Nat.zero_le _,Wz.refl _ _ _⟩
 case round =>
  obtain ⟨j,rfl,hj,hw⟩:=hrel
  by_cases hlt:j<n
  ·
   rcases HR.out.next hw with ⟨h1,h2⟩ | ⟨b,c2,cur,h1,hb,hh,hnc,hcm,hsz⟩
   · omega
   simp only [Value.slice.injEq] at h1
   obtain ⟨rfl,-,rfl⟩:=h1
   have hjc:j<cur.size:=by omega
   have y0:wr.cell? ⟨b,j,none⟩=some cur[j]:=cZv hh hjc
   have y1:=aZf hh j
   have i0:(0:Int)≤(j:Int):=by omega
   have i1:(j:Int)<(n:Int):=by omega
   have HW:=hid_ (hw.trans (Wz.set (i:=j) hh hb (.int .i64 mk)))
   clear hw hh hb hnc hcm hsz
   generalize cur[j]=cj at y0
   go_wp2_with (fail)
   go_roundw
   case rel=>exact ⟨j+1,by go_num,hlt,HW.out⟩
   case measure=>simp [intOf];omega
  ·
   have hge:¬(j:Int)<(n:Int):=by omega
   have HW:=hid_ hw
   clear hw hlt
   go_wp2_with (fail)
   go_loopw [5,6] (fun s5 s6 wx=>∃ j:Nat,s6=.int .i64 j∧j≤80∧rowL w.heap.size ob wx s5 73 1 (n+j)∧Wz w.heap.size ob w wx) (fun _ s6 _=>80 - (intOf s6).toNat)
   case atStart=>exact ⟨0,rfl,by omega,HR.out.next HW.out,HW.out⟩
   case round =>
    obtain ⟨q,rfl,hq,hrow,hw⟩:=hrel
    by_cases hlt:q<80
    ·
     have i1:(q:Int)<80:=by omega
     have HROW:=hid_ hrow
     have HW2:=hid_ hw
     have hsz:=hw.size
     have b2:(n+q+1)*8≤140737488355328:=Nat.le_trans (Nat.mul_le_mul_right 8 (show n+q+1≤n+80 from Nat.add_le_add_left hlt n)) hn
     have b1:n+q+1≤maxLen:=Nat.le_trans (Nat.le_trans (Nat.le_mul_of_pos_right _ (by decide)) b2) (by decide)
     have HB:=hid_ (And.intro b1 (And.intro b2 hsz))
     clear hrow hw b1 b2 hsz
     go_wp2_with ((with_reducible refine aZh (b:=.append) (xs:=#[.tmp 22,.tmp 24]) rfl ?_);at_builtin;refine dZS w.heap.size ob rfl (.tmp 22) (.tmp 24) 51 73 (.int .i64 0) 1 8 rfl Try.underlying51 info73 rfl (by decide) u5 (n+q) [.int .i64 mk] rfl rfl rfl (by simp [Value.oneCell']) HROW.out HB.out.1 HB.out.2.1 HB.out.2.2 ?_;intro v2 w2 hr2 hw2)
     have HW3:=hid_ (HW2.out.trans hw2)
     have HR3:=hid_ hr2
     clear hr2 hw2 HW2 HROW
     go_roundw
     case rel=>exact ⟨q+1,by go_num,hlt,HR3.out,HW3.out⟩
     case measure=>simp [intOf];omega
    ·
     have hge:¬(q:Int)<80:=by omega
     have HW2:=hid_ hw
     clear hw hrow hlt
     go_wp2_with (fail)
     go_end0
     exact ⟨⟨_,rfl⟩,HW2.out⟩
theorem wipe24 (w:World) (v:Value) (mk:ByteArray) (n:Nat) (h:rowL w.heap.size v.ownBlock w v 9 1 n) (hn:(n+80)*16≤140737488355328) :
 Calls Try.prog 24 #[v,.string mk] w fun e w'=>(∃ x,e=.returned x)∧Wz w.heap.size v.ownBlock w w':=by
 obtain ⟨ob,hob⟩:∃ ob,ob=v.ownBlock:=⟨_,rfl⟩
 rw [←hob] at h ⊢
 clear hob
 obtain ⟨A,c,hv⟩:∃ A c,v=.slice A n c:=by
  rcases h with ⟨h1,h2⟩ | ⟨b,c,cur,h1,-⟩
  · subst h2;exact ⟨none,0,h1⟩
  · exact ⟨_,_,h1⟩
 subst hv
 have HR:=hid_ h
 clear h
 go_enter Try.func24,Try.ntmps24
 go_wp2_with (fail)
 go_loopw [9] (fun s9 wr=>∃ j:Nat,s9=.int .i64 j∧j≤n∧Wz w.heap.size ob w wr) (fun s9 _=>n - (intOf s9).toNat)
 case atStart=>exact ⟨0,rfl,Nat.zero_le _,Wz.refl _ _ _⟩
 case round =>
  obtain ⟨j,rfl,hj,hw⟩:=hrel
  by_cases hlt:j<n
  ·
   rcases HR.out.next hw with ⟨h1,h2⟩ | ⟨b,c2,cur,h1,hb,hh,hnc,hcm,hsz⟩
   · omega
   simp only [Value.slice.injEq] at h1
   obtain ⟨rfl,-,rfl⟩:=h1
   have hjc:j<cur.size:=by omega
   have y0:wr.cell? ⟨b,j,none⟩=some cur[j]:=cZv hh hjc
   have y1:=aZf hh j
   have i0:(0:Int)≤(j:Int):=by omega
   have i1:(j:Int)<(n:Int):=by omega
   have HW:=hid_ (hw.trans (Wz.set (i:=j) hh hb (.string mk)))
   clear hw hh hb hnc hcm hsz
   generalize cur[j]=cj at y0
   go_wp2_with (fail)
   go_roundw
   case rel=>exact ⟨j+1,by go_num,hlt,HW.out⟩
   case measure=>simp [intOf];omega
  ·
   have hge:¬(j:Int)<(n:Int):=by omega
   have HW:=hid_ hw
   clear hw hlt
   go_wp2_with (fail)
   go_loopw [5,6] (fun s5 s6 wx=>∃ j:Nat,s6=.int .i64 j∧j≤80∧rowL w.heap.size ob wx s5 9 1 (n+j)∧Wz w.heap.size ob w wx) (fun _ s6 _=>80 - (intOf s6).toNat)
   case atStart=>exact ⟨0,rfl,by omega,HR.out.next HW.out,HW.out⟩
   case round =>
    obtain ⟨q,rfl,hq,hrow,hw⟩:=hrel
    by_cases hlt:q<80
    ·
     have i1:(q:Int)<80:=by omega
     have HROW:=hid_ hrow
     have HW2:=hid_ hw
     have hsz:=hw.size
     have b2:(n+q+1)*16≤140737488355328:=Nat.le_trans (Nat.mul_le_mul_right 16 (show n+q+1≤n+80 from Nat.add_le_add_left hlt n)) hn
     have b1:n+q+1≤maxLen:=Nat.le_trans (Nat.le_trans (Nat.le_mul_of_pos_right _ (by decide)) b2) (by decide)
     have HB:=hid_ (And.intro b1 (And.intro b2 hsz))
     clear hrow hw b1 b2 hsz
     go_wp2_with ((with_reducible refine aZh (b:=.append) (xs:=#[.tmp 22,.tmp 24]) rfl ?_);at_builtin;refine dZS w.heap.size ob rfl (.tmp 22) (.tmp 24) 22 9 (.string ⟨#[]⟩) 1 16 rfl Try.underlying22 info9 rfl (by decide) u5 (n+q) [.string mk] rfl rfl rfl (by simp [Value.oneCell']) HROW.out HB.out.1 HB.out.2.1 HB.out.2.2 ?_;intro v2 w2 hr2 hw2)
     have HW3:=hid_ (HW2.out.trans hw2)
     have HR3:=hid_ hr2
     clear hr2 hw2 HW2 HROW
     go_roundw
     case rel=>exact ⟨q+1,by go_num,hlt,HR3.out,HW3.out⟩
     case measure=>simp [intOf];omega
    ·
     have hge:¬(q:Int)<80:=by omega
     have HW2:=hid_ hw
     clear hw hrow hlt
     go_wp2_with (fail)
     go_end0
     exact ⟨⟨_,rfl⟩,HW2.out⟩
theorem wipe27 (w:World) (v:Value) (mk:Int) (n:Nat) (h:rowL w.heap.size v.ownBlock w v 5 1 n) (hn:(n+80)*1≤140737488355328) :
 Calls Try.prog 27 #[v,.int .u8 mk] w fun e w'=>(∃ x,e=.returned x)∧Wz w.heap.size v.ownBlock w w':=by
 obtain ⟨ob,hob⟩:∃ ob,ob=v.ownBlock:=⟨_,rfl⟩
 rw [←hob] at h ⊢
 clear hob
 obtain ⟨A,c,hv⟩:∃ A c,v=.slice A n c:=by
  rcases h with ⟨h1,h2⟩ | ⟨b,c,cur,h1,-⟩
  · subst h2;exact ⟨none,0,h1⟩
  · exact ⟨_,_,h1⟩
 subst hv
 have HR:=hid_ h
 clear h
 go_enter Try.func27,Try.ntmps27
 go_wp2_with (fail)
 go_loopw [9] (fun s9 wr=>∃ j:Nat,s9=.int .i64 j∧j≤n∧Wz w.heap.size ob w wr) (fun s9 _=>n - (intOf s9).toNat)
 case atStart=>exact ⟨0,rfl,Nat.zero_le _,Wz.refl _ _ _⟩
 case round =>
  obtain ⟨j,rfl,hj,hw⟩:=hrel
  by_cases hlt:j<n
  ·
   rcases HR.out.next hw with ⟨h1,h2⟩ | ⟨b,c2,cur,h1,hb,hh,hnc,hcm,hsz⟩
   · omega
   simp only [Value.slice.injEq] at h1
   obtain ⟨rfl,-,rfl⟩:=h1
   have hjc:j<cur.size:=by omega
   have y0:wr.cell? ⟨b,j,none⟩=some cur[j]:=cZv hh hjc
   have y1:=aZf hh j
   have i0:(0:Int)≤(j:Int):=by omega
   have i1:(j:Int)<(n:Int):=by omega
   have HW:=hid_ (hw.trans (Wz.set (i:=j) hh hb (.int .u8 mk)))
   clear hw hh hb hnc hcm hsz
   generalize cur[j]=cj at y0
   go_wp2_with (fail)
   go_roundw
   case rel=>exact ⟨j+1,by go_num,hlt,HW.out⟩
   case measure=>simp [intOf];omega
  ·
   have hge:¬(j:Int)<(n:Int):=by omega
   have HW:=hid_ hw
   clear hw hlt
   go_wp2_with (fail)
   go_loopw [5,6] (fun s5 s6 wx=>∃ j:Nat,s6=.int .i64 j∧j≤80∧rowL w.heap.size ob wx s5 5 1 (n+j)∧Wz w.heap.size ob w wx) (fun _ s6 _=>80 - (intOf s6).toNat)
   case atStart=>exact ⟨0,rfl,by omega,HR.out.next HW.out,HW.out⟩
   case round =>
    obtain ⟨q,rfl,hq,hrow,hw⟩:=hrel
    by_cases hlt:q<80
    ·
     have i1:(q:Int)<80:=by omega
     have HROW:=hid_ hrow
     have HW2:=hid_ hw
     have hsz:=hw.size
     have b2:(n+q+1)*1≤140737488355328:=Nat.le_trans (Nat.mul_le_mul_right 1 (show n+q+1≤n+80 from Nat.add_le_add_left hlt n)) hn
     have b1:n+q+1≤maxLen:=Nat.le_trans (Nat.le_trans (Nat.le_mul_of_pos_right _ (by decide)) b2) (by decide)
     have HB:=hid_ (And.intro b1 (And.intro b2 hsz))
     clear hrow hw b1 b2 hsz
     go_wp2_with ((with_reducible refine aZh (b:=.append) (xs:=#[.tmp 22,.tmp 24]) rfl ?_);at_builtin;refine dZS w.heap.size ob rfl (.tmp 22) (.tmp 24) 53 5 (.int .u8 0) 1 1 rfl Try.underlying53 info5 rfl (by decide) u5 (n+q) [.int .u8 mk] rfl rfl rfl (by simp [Value.oneCell']) HROW.out HB.out.1 HB.out.2.1 HB.out.2.2 ?_;intro v2 w2 hr2 hw2)
     have HW3:=hid_ (HW2.out.trans hw2)
     have HR3:=hid_ hr2
     clear hr2 hw2 HW2 HROW
     go_roundw
     case rel=>exact ⟨q+1,by go_num,hlt,HR3.out,HW3.out⟩
     case measure=>simp [intOf];omega
    ·
     have hge:¬(q:Int)<80:=by omega
     have HW2:=hid_ hw
     clear hw hrow hlt
     go_wp2_with (fail)
     go_end0
     exact ⟨⟨_,rfl⟩,HW2.out⟩
def mem.T17:Bool × List (List Nat × List Nat):=(true,[([],[]),([],[]),([],[]),([2],[2]),([1,3],[1,3]),([0,4],[0,4]),([5],[5])])
def mem.B17:List Nat:=[0,0,0,4,14,31,63]
theorem mem.tab17:rtab .any (cZt Try.f8 17)=mem.T17:=by kernel_rfl
theorem mem.bits17:bZy mem.T17.2 mem.B17=true:=by kernel_rfl
theorem lit2_u8 (W:World) (a b:Int):Kd.C (Kd.int .u8) (W.alloc (.cells #[.int .u8 a,.int .u8 b] 5)) (some ⟨W.heap.size,0,none⟩) 2 [a,b]:=by
  have hn:=heap_alloc_new W (.cells #[.int .u8 a,.int .u8 b] 5)
  refine ⟨rfl,by decide,fun _=>⟨_,rfl,fun j p hj=>?_⟩⟩
  have h4:(Kd.int IntKind.u8).sz=1:=rfl
  match j,hj with
  | 0,hj =>
    obtain rfl:=Option.some.inj hj
    refine ⟨[.int .u8 a],rfl,rfl,fun i u hu=>?_⟩
    match i,hu with
    | 0,hu =>
      obtain rfl:=Option.some.inj hu
      rw [cZ9,cell_of_row _ _ _ _ 5 (0,0) hn];rfl
  | 1,hj =>
    obtain rfl:=Option.some.inj hj
    refine ⟨[.int .u8 b],rfl,rfl,fun i u hu=>?_⟩
    match i,hu with
    | 0,hu =>
      obtain rfl:=Option.some.inj hu
      rw [cZ9,cell_of_row _ _ _ _ 5 (0,0) hn];rfl
theorem hZ8 (w:World) (A0 A1 A2 A3 A4:Option Addr) (c0 c1 c2 c3 c4:Nat) (g:Pg) (hI:InPg w A0 A1 A2 A3 A4 c0 c1 c2 c3 c4 g) (fb:FitsB g) (Ab:Option Addr) (cb:Nat) (bs:List Int) (hB:Kd.C (Kd.int .u8) w Ab bs.length bs) (hc:bs.length≤cb) (G:Good bs) (lb:bs.length≤140737488351232) :
 Calls Try.prog 8 #[aZ6 A0 A1 A2 A3 A4 c0 c1 c2 c3 c4 g,.slice Ab bs.length cb] w fun e w'=>e=.returned (.bool true)∧Below w.heap.size w w':=by
 have f:=fb.fits
 have st:=StL.start w hI
 have HB0:=hid_ hB
 have HI0:=hid_ hI
 clear hI hB
 unfold aZ6
 go_enter Try.func8,Try.ntmps8
 go_upto_region 1 with (fail)
 generalize w.alloc (.cells #[.slice A0 g.T.length c0,.slice A1 g.N.length c1,.slice A2 g.S.length c2,.slice A3 g.M.length c3,.slice A4 g.C.length c4,.int .i64 g.dep,.int .i64 g.loc] 28)=W0 at st ⊢
 have ST0:=hid_ st
 clear st
 go_wp2_with (fail)
 refine (wakes_any _).mono ?_
 rintro e W1 ⟨rfl,bel⟩
 have ST1:=hid_ (ST0.out.next bel)
 clear ST0 bel
 go_upto_region 3 with (fail)
 obtain ⟨x0,x1,x2,x3,x4,x5,x6⟩:=aZm ST1.out.box
 go_wp2_with (fail)
 clear x0 x1 x2 x3 x4 x5 x6
 refine (show Calls _ _ _ _ _ from copy_is W1 A0 A1 A2 A3 A4 c0 c1 c2 c3 c4 g ST1.out.pg fb).mono ?_
 rintro e W2 ⟨v,rfl,⟨vT,vN,vS,vM,vC,rfl,rT,rN,rS,rM,rC⟩,bel⟩
 obtain ⟨D0,d0,rfl⟩:=Kd.R_slice rT
 obtain ⟨D1,d1,rfl⟩:=Kd.R_slice rN
 obtain ⟨D2,d2,rfl⟩:=Kd.R_slice rS
 obtain ⟨D3,d3,rfl⟩:=Kd.R_slice rM
 obtain ⟨D4,d4,rfl⟩:=Kd.R_slice rC
 have hlo:=aZd ST1.out.box
 have ST2:=hid_ (ST1.out.next bel)
 have hl0:=bel.size
 generalize W1.heap.size=lo at rT rN rS rM rC hlo hl0
 have HQ2:=hid_ (And.intro rT (And.intro rN (And.intro rS (And.intro rM (And.intro rC (And.intro hlo hl0))))))
 clear rT rN rS rM rC hlo hl0 ST1 bel
 go_upto_region 4 with (fail)
 have p5:=heap_alloc_new W2 (.cells #[.slice D0 g.T.length d0,.slice D1 g.N.length d1,.slice D2 g.S.length d2,.slice D3 g.M.length d3,.slice D4 g.C.length d4,.int .i64 g.dep,.int .i64 g.loc] 28)
 have bel:=aZa (Below.refl W2.heap.size W2) (.cells #[.slice D0 g.T.length d0,.slice D1 g.N.length d1,.slice D2 g.S.length d2,.slice D3 g.M.length d3,.slice D4 g.C.length d4,.int .i64 g.dep,.int .i64 g.loc] 28)
 obtain ⟨rT,rN,rS,rM,rC,hlo,hl2⟩:=HQ2.out
 have ST3:=hid_ (ST2.out.next bel)
 have HQ3:=hid_ (And.intro (Kd.R_below rT bel) (And.intro (Kd.R_below rN bel) (And.intro (Kd.R_below rS bel) (And.intro (Kd.R_below rM bel) (And.intro (Kd.R_below rC bel) (And.intro hlo (And.intro p5 (Nat.le_trans hl2 bel.size))))))))
 clear rT rN rS rM rC hlo hl2 p5 bel ST2 HQ2
 generalize W2.alloc (.cells #[.slice D0 g.T.length d0,.slice D1 g.N.length d1,.slice D2 g.S.length d2,.slice D3 g.M.length d3,.slice D4 g.C.length d4,.int .i64 g.dep,.int .i64 g.loc] 28)=W3 at ST3 HQ3 ⊢
 generalize W2.heap.size=X5 at HQ3 ⊢
 have hB3:=Kd.C_below HB0.out ST3.out.below
 have hB3h:=Kd.C_below hB3 (aZa (Below.refl W3.heap.size W3) (.cells #[] 5))
 go_wp2_with (first
  | ((with_reducible refine aZh (b:=.append) (xs:=#[.tmp 31,.tmp 32]) rfl ?_);at_builtin;refine Kd.R_append_rows (Kd.int .u8) (w0:=W3) W3.heap.size rfl (.tmp 31) (.tmp 32) 53 5 (.int .u8 0) 1 rfl Try.underlying53 info5 rfl (by decide) (by omega) _ [] bs Ab bs.length cb (fun k=>W3.heap.size≤k) (fun _=>False) rfl rfl (hZ5 W3) hB3h (fun _ _ h=>h) (fun _ hk=>hk.elim) (fun k hk=>by simp at hk;omega) (aZa (Below.refl _ _) _) (by simp) (by simp only [List.length_nil];omega) ?_;intro v4 w4 hr4 hb4 hg4 _)
  | ((with_reducible refine aZh (b:=.append) (xs:=#[.tmp 33,.tmp 34]) rfl ?_);at_builtin;refine Kd.R_append_rows (Kd.int .u8) (w0:=W3) W3.heap.size rfl (.tmp 33) (.tmp 34) 53 5 (.int .u8 0) 1 rfl Try.underlying53 info5 rfl (by decide) (by omega) v4 bs [170,187] (some ⟨w4.heap.size,0,none⟩) 2 2 (fun k=>W3.heap.size≤k) (fun _=>False) rfl rfl (by simpa using Kd.R_below hr4 (aZa (Below.refl w4.heap.size w4) (.cells #[.int .u8 170,.int .u8 187] 5))) (lit2_u8 w4 170 187) (fun _ _ h=>h) (fun _ hk=>hk.elim) (fun k hk=>by have:=hb4.size;simp at hk;omega) (hb4.trans ((aZa (Below.refl w4.heap.size w4) _).mono hb4.size)) (by have:=hb4.size;simp;omega) (by omega) ?_;intro v6 w6 hr6 hb6 hg6 _;obtain ⟨Bb,cB,curB,rfl,hlB,hhB,hnB,hmB,hcB⟩:=bytes_row hr6 (by simp);rw [show (bs++[170,187]:List Int).length=bs.length+2 by simp] at hnB ⊢))
 have hB6:Kd.C (Kd.int .u8) w6 (some ⟨Bb,0,none⟩) (bs.length+2) (bs++[170,187]):=by
  have h0:=(Kd.R_reads' hr6).2.2
  rw [show (bs++[170,187]:List Int).length=bs.length+2 by simp] at h0
  exact h0
 obtain ⟨rT,rN,rS,rM,rC,hlo,p5,hl3⟩:=HQ3.out
 have ST6:=hid_ (ST3.out.next hb6)
 have rC6:=Kd.R_mono (Kd.R_bound (Kd.R_below rC hb6)) (ok':=fun k=>k<w6.heap.size) (fun _ hk=>hk.2.2.1)
 have HQ6:=hid_ (show Qst w6 lo X5 Bb cB D0 D1 D2 D3 D4 d0 d1 d2 d3 d4 g bs from ⟨Kd.R_below rT hb6,Kd.R_below rN hb6,Kd.R_below rS hb6,Kd.R_below rM hb6,Kd.R_below rC hb6,aZc p5 hb6,hB6,⟨curB,hhB,hcB⟩⟩)
 have HC6:=hid_ rC6
 have HLO:=hid_ (And.intro hlo (And.intro (Nat.le_trans hl3 hlB) (And.intro (aZd hhB) hmB)))
 have i2:(bs.length:Int)≤(cB:Int):=by omega
 have i3:(0:Int)≤(bs.length:Int):=by omega
 have hle:bs.length≤cB:=by omega
 clear hr6 hb6 hg6 hr4 hb4 hg4 hB6 hB3 hB3h ST3 HQ3 rT rN rS rM rC rC6 hlo p5 hl3 hlB hhB hmB hcB hnB
 go_wp2_with (fail)
 refine (show Calls _ _ _ _ _ from fZ0 w6 (some ⟨Bb,0,none⟩) cB bs HQ6.out.bytes hle G).mono ?_
 rintro e W7 ⟨vx,evx,rfl,hpx,-,bel⟩
 have hsm:=pgR_small bs G
 have hby:∀ W,Kd.C (Kd.int .u8) W (some ⟨Bb,0,none⟩) bs.length bs→Calls Try.prog 18 #[.slice (some ⟨Bb,0,none⟩) bs.length cB] W fun e w'=>∃ v ev,e=.returned (.tuple #[v,.agg #[.int .i64 (bmostR (aZE bs)),.int .i64 (bstepsR (aZE bs))],ev])∧IsPg W.heap.size (pgR (aZE bs)) v w'∧evIs (errR (aZE bs)) ev w'∧Below W.heap.size W w':=fun W h=>fZ0 W (some ⟨Bb,0,none⟩) cB bs h hle G
 generalize hgb:pgR (aZE bs)=gb at hpx hsm hby
 generalize bmostR (aZE bs)=most at hby ⊢
 generalize bstepsR (aZE bs)=steps at hby ⊢
 have HGB:=hid_ hgb
 have HSM:=hid_ hsm
 have HBY:=hid_ hby
 obtain ⟨uT,uN,uS,uM,uC,rfl,hxr⟩:=xrows_of hpx hsm.2.2.2.2.2.1 hsm.2.2.2.2.2.2
 obtain ⟨E0,e0,rfl⟩:=hxr.T.slice
 obtain ⟨E1,e1,rfl⟩:=hxr.N.slice
 obtain ⟨E2,e2,rfl⟩:=hxr.S.slice
 obtain ⟨E3,e3,rfl⟩:=hxr.M.slice
 obtain ⟨E4,e4,rfl⟩:=hxr.C.slice
 have ST7:=hid_ (ST6.out.next bel)
 have HQ7:=hid_ (HQ6.out.next bel)
 have HC7:=hid_ (Kd.R_below HC6.out bel)
 have hs7:=bel.size
 generalize w6.heap.size=lx at hxr HC7 HLO hs7
 have HX7:=hid_ (And.intro hxr hs7)
 clear hgb hsm hby hpx bel ST6 HQ6 HC6 hxr hs7
 obtain ⟨p0,p1,p2⟩:=aZ5 W7 (.cells #[.slice E0 gb.T.length e0,.slice E1 gb.N.length e1,.slice E2 gb.S.length e2,.slice E3 gb.M.length e3,.slice E4 gb.C.length e4,.int .i64 gb.dep,.int .i64 gb.loc] 28) (.cells #[.int .i64 most,.int .i64 steps] 31)
 go_upto_region 6 with (fail)
 generalize (W7.alloc (.cells #[.slice E0 gb.T.length e0,.slice E1 gb.N.length e1,.slice E2 gb.S.length e2,.slice E3 gb.M.length e3,.slice E4 gb.C.length e4,.int .i64 gb.dep,.int .i64 gb.loc] 28)).alloc (.cells #[.int .i64 most,.int .i64 steps] 31)=W8 at p0 p1 p2 ⊢
 have ST8:=hid_ (ST7.out.next p2)
 have HQ8:=hid_ (HQ7.out.next p2)
 have HC8:=hid_ (Kd.R_below HC7.out p2)
 have HX8:=hid_ (And.intro (HX7.out.1.below p2) (And.intro p0 (And.intro HX7.out.2 p2.size)))
 clear p0 p1 p2 ST7 HQ7 HC7 HX7
 generalize W7.heap.size=hx at HX8 ⊢
 go_wp2_with (fail)
 refine (HBY.out W8 HQ8.out.bytes).mono ?_
 rintro e W9 ⟨vy,evy,rfl,hpy,-,bel⟩
 obtain ⟨F0,F1,F2,F3,F4,f0,f1,f2,f3,f4,rfl,hyu⟩:=IsPgU.of hpy
 have ST9:=hid_ (ST8.out.next bel)
 have HQ9:=hid_ (HQ8.out.next bel)
 have HC9:=hid_ (Kd.R_below HC8.out bel)
 have HX9:=hid_ (And.intro (HX8.out.1.below bel) (And.intro (aZc HX8.out.2.1 bel) HX8.out.2.2))
 have hs9:=bel.size
 generalize W8.heap.size=ly at hyu HX9 hs9
 clear hpy bel ST8 HQ8 HC8 HX8
 have HY9:=hid_ (And.intro hyu hs9)
 clear hyu hs9
 unfold aZ6
 obtain ⟨p0,p1,p2⟩:=aZ5 W9 (.cells #[.slice F0 gb.T.length f0,.slice F1 gb.N.length f1,.slice F2 gb.S.length f2,.slice F3 gb.M.length f3,.slice F4 gb.C.length f4,.int .i64 gb.dep,.int .i64 gb.loc] 28) (.cells #[.int .i64 most,.int .i64 steps] 31)
 go_upto_region 7 with (fail)
 generalize (W9.alloc (.cells #[.slice F0 gb.T.length f0,.slice F1 gb.N.length f1,.slice F2 gb.S.length f2,.slice F3 gb.M.length f3,.slice F4 gb.C.length f4,.int .i64 gb.dep,.int .i64 gb.loc] 28)).alloc (.cells #[.int .i64 most,.int .i64 steps] 31)=W10 at p0 p1 p2 ⊢
 have ST10:=hid_ (ST9.out.next p2)
 have HQ10:=hid_ (HQ9.out.next p2)
 have HC10:=hid_ (Kd.R_below HC9.out p2)
 have HX10:=hid_ (And.intro (HX9.out.1.below p2) (And.intro (aZc HX9.out.2.1 p2) HX9.out.2.2))
 have HY10:=hid_ (And.intro (HY9.out.1.below p2) (And.intro p0 (And.intro HY9.out.2 p2.size)))
 clear p0 p1 p2 ST9 HQ9 HC9 HX9 HY9
 generalize W9.heap.size=hy at HY10 ⊢
 obtain ⟨x0,x1,x2,x3,x4,x5,x6⟩:=aZm HQ10.out.box
 go_wp2_with (fail)
 clear x0 x1 x2 x3 x4 x5 x6
 refine (show Calls _ _ _ _ _ from fZD W10 D0 D1 D2 D3 D4 d0 d1 d2 d3 d4 g HQ10.out.pg f).mono ?_
 rintro e W11 ⟨tvl,evl,rfl,htl,-,bel⟩
 have ST11:=hid_ (ST10.out.next bel)
 have HQ11:=hid_ (HQ10.out.next bel)
 have HC11:=hid_ (Kd.R_below HC10.out bel)
 have HX11:=hid_ (And.intro (HX10.out.1.below bel) (And.intro (aZc HX10.out.2.1 bel) HX10.out.2.2))
 have HY11:=hid_ (And.intro (HY10.out.1.below bel) (And.intro (aZc HY10.out.2.1 bel) HY10.out.2.2))
 have hs11:=bel.size
 clear bel ST10 HQ10 HC10 HX10 HY10
 obtain ⟨Al,cl,rfl⟩:=Kd.R_slice htl
 have hl11:=fZL rfl htl (fZa g)
 have HZ11:=hid_ hs11
 have HL11:=hid_ (And.intro hl11 hs11)
 clear htl hl11 hs11
 obtain ⟨x0,x1,x2,x3,x4,x5,x6⟩:=aZm HQ11.out.box
 go_wp2_with (fail)
 clear x0 x1 x2 x3 x4 x5 x6
 refine (show Calls _ _ _ _ _ from hZs W11 D0 D1 D2 D3 D4 d0 d1 d2 d3 d4 g HQ11.out.pg f).mono ?_
 rintro e W12 ⟨tvm,evm,rfl,htm,-,bel⟩
 have ST12:=hid_ (ST11.out.next bel)
 have HQ12:=hid_ (HQ11.out.next bel)
 have HC12:=hid_ (Kd.R_below HC11.out bel)
 have HX12:=hid_ (And.intro (HX11.out.1.below bel) (And.intro (aZc HX11.out.2.1 bel) HX11.out.2.2))
 have HY12:=hid_ (And.intro (HY11.out.1.below bel) (And.intro (aZc HY11.out.2.1 bel) HY11.out.2.2))
 have HL12:=hid_ (And.intro (HL11.out.1.next (Wq.below (may:=fun _=>False) bel).row (fun k cells _ hc=>bel.block k (aZd hc))) HL11.out.2)
 have hs12:=bel.size
 clear bel ST11 HQ11 HC11 HX11 HY11 HL11
 obtain ⟨Am,cm,rfl⟩:=Kd.S_slice htm
 have hm12:=S_top htm
 have HZ12:=hid_ hs12
 have HM12:=hid_ (And.intro hm12 hs12)
 clear htm hm12 hs12
 obtain ⟨x0,x1,x2,x3,x4,x5,x6⟩:=aZm HQ12.out.box
 go_wp2_with (fail)
 clear x0 x1 x2 x3 x4 x5 x6
 refine (show Calls _ _ _ _ _ from prog_u W12 D0 D1 D2 D3 D4 d0 d1 d2 d3 d4 g HQ12.out.pg f).mono ?_
 rintro e W13 ⟨evp,rfl,-,bel⟩
 have HZ13:=hid_ bel.size
 have ST13:=hid_ (ST12.out.next bel)
 have HQ13:=hid_ (HQ12.out.next bel)
 have HC13:=hid_ (Kd.R_below HC12.out bel)
 have HX13:=hid_ (And.intro (HX12.out.1.below bel) (And.intro (aZc HX12.out.2.1 bel) HX12.out.2.2))
 have HY13:=hid_ (And.intro (HY12.out.1.below bel) (And.intro (aZc HY12.out.2.1 bel) HY12.out.2.2))
 have HL13:=hid_ (And.intro (HL12.out.1.next (Wq.below (may:=fun _=>False) bel).row (fun k cells _ hc=>bel.block k (aZd hc))) HL12.out.2)
 have HM13:=hid_ (And.intro (Kd.S_below HM12.out.1 bel) HM12.out.2)
 clear bel ST12 HQ12 HC12 HX12 HY12 HL12 HM12
 generalize mostR (aZt g)=mg
 generalize eZy g.C.length (aZt g)=sg
 obtain ⟨x0,x1,x2,x3,x4,x5,x6⟩:=aZm HQ13.out.box
 obtain ⟨y0,y1,y2,y3,y4,y5,y6⟩:=aZm ST13.out.box
 go_wp2_with (fail)
 clear x0 x1 x2 x3 x4 x5 x6 y0 y1 y2 y3 y4 y5 y6
 refine (show Calls _ _ _ _ _ from fZG W13 A0 A1 A2 A3 A4 c0 c1 c2 c3 c4 g D0 D1 D2 D3 D4 d0 d1 d2 d3 d4 HQ13.out.pg ST13.out.pg f).mono ?_
 rintro e W14 ⟨rfl,bel⟩
 have HZ14:=hid_ bel.size
 have ST14:=hid_ (ST13.out.next bel)
 have HQ14:=hid_ (HQ13.out.next bel)
 have HC14:=hid_ (Kd.R_below HC13.out bel)
 have HX14:=hid_ (And.intro (HX13.out.1.below bel) (And.intro (aZc HX13.out.2.1 bel) HX13.out.2.2))
 have HY14:=hid_ (And.intro (HY13.out.1.below bel) (And.intro (aZc HY13.out.2.1 bel) HY13.out.2.2))
 have HL14:=hid_ (And.intro (HL13.out.1.next (Wq.below (may:=fun _=>False) bel).row (fun k cells _ hc=>bel.block k (aZd hc))) HL13.out.2)
 have HM14:=hid_ (And.intro (Kd.S_below HM13.out.1 bel) HM13.out.2)
 clear bel ST13 HQ13 HC13 HX13 HY13 HL13 HM13
 have z0:W14.cell? ⟨Bb,bs.length,none⟩=some (.int .u8 170):=HQ14.out.cell _ _ (by simp)
 have z1:W14.cell? ⟨Bb,bs.length+1,none⟩=some (.int .u8 187):=HQ14.out.cell _ _ (by simp)
 have w1:IntKind.i64.wrap ((bs.length:Int)+1)=((bs.length+1:Nat):Int):=by rw [show (bs.length:Int)+1=((bs.length+1:Nat):Int) by omega];exact IntWalk.i64_in _ ⟨by omega,by omega⟩
 have w2:wrap64 ((bs.length:Int)+1)=((bs.length+1:Nat):Int):=by unfold wrap64;omega
 have i4:(bs.length:Int)<((bs.length+2:Nat):Int):=by omega
 have i5:((bs.length+1:Nat):Int)<((bs.length+2:Nat):Int):=by omega
 have i6:(0:Int)≤((bs.length+1:Nat):Int):=by omega
 have i7:(0:Int)≤((bs.length+2:Nat):Int):=by omega
 go_wp2_with (fail)
 clear z0 z1 w1 w2 i4 i5 i6
 go_loopw [17] (fun s17 wr=>∃ j:Nat,s17=.int .i64 j∧j≤bs.length∧Below W14.heap.size W14 wr) (fun s17 _=>bs.length - (intOf s17).toNat)
 case atStart=>exact ⟨0,rfl,Nat.zero_le _,Below.refl _ _⟩
 case round =>
  obtain ⟨j,rfl,hj,hbw⟩:=hrel
  have HBW:=hid_ hbw
  by_cases hlt:j<bs.length
  ·
   have hx:(bs++[170,187])[j]?=some (rd bs (j:Int)):=by
    rw [List.getElem?_append_left hlt]
    simp [rd,List.getD_eq_getElem?_getD,List.getElem?_eq_getElem hlt]
   have k0:=aZe hbw (HQ14.out.cell j _ hx)
   obtain ⟨ad,rfl,k1⟩:=Kd.at_int (Kd.C_below HB0.out (ST14.out.below.trans (hbw.mono ST14.out.below.size))) (j:Int) (by omega) (by omega)
   rw [Int.toNat_natCast] at k1
   generalize rd bs (j:Int)=xv at k0 k1
   have j0:(0:Int)≤(j:Int):=by omega
   have j1:(j:Int)<(bs.length:Int):=by omega
   have j2:(j:Int)<((bs.length+2:Nat):Int):=by omega
   have j3:(j:Int)<(bs.length:Int)+2:=by omega
   have j4:j<bs.length+2:=by omega
   clear hbw hx
   go_upto_region 15 with (fail)
   go_region_held3 (fun w'=>w'.cell? ⟨Bb,j,none⟩=some (.int .u8 xv)∧w'.cell? (ad.add j)=some (.int .u8 xv)) (go_keep) (fail)
   go_wp2_with (fail)
   go_roundw
   case rel=>exact ⟨j+1,by go_num,hlt,HBW.out.drew⟩
   case measure=>simp [intOf];omega
  ·
   have hge:¬(j:Int)<(bs.length:Int):=by omega
   obtain ⟨W15,hW15⟩:∃ W15,W15=wr:=⟨_,rfl⟩
   subst hW15
   have bel:=hbw
   have HZ15:=hid_ bel.size
   have ST15:=hid_ (ST14.out.next bel)
   have HQ15:=hid_ (HQ14.out.next bel)
   have HC15:=hid_ (Kd.R_below HC14.out bel)
   have HX15:=hid_ (And.intro (HX14.out.1.below bel) (And.intro (aZc HX14.out.2.1 bel) HX14.out.2.2))
   have HY15:=hid_ (And.intro (HY14.out.1.below bel) (And.intro (aZc HY14.out.2.1 bel) HY14.out.2.2))
   have HL15:=hid_ (And.intro (HL14.out.1.next (Wq.below (may:=fun _=>False) bel).row (fun k cells _ hc=>bel.block k (aZd hc))) HL14.out.2)
   have HM15:=hid_ (And.intro (Kd.S_below HM14.out.1 bel) HM14.out.2)
   clear hbw hlt hj bel ST14 HQ14 HC14 HX14 HY14 HL14 HM14 HBW
   have hmB:mayT W15 lo lx Bb:=by
    obtain ⟨cur,q1,-⟩:=HQ15.out.rowB
    exact ⟨HLO.out.2.1,HLO.out.2.2.1,cur,5,q1,.inr rfl⟩
   have HMB:=hid_ hmB
   have HSZ:=hid_ (show lx≤W15.heap.size∧W10.heap.size≤W11.heap.size∧W11.heap.size≤W12.heap.size∧W12.heap.size≤W15.heap.size by have h1:=HX15.out.2.2;have h2:=HY15.out.2.2;have h3:=HZ11.out;have h4:=HZ12.out;have h5:=HZ13.out;have h6:=HZ14.out;have h7:=HZ15.out;omega)
   clear hmB
   go_upto_region 17 with (fail)
   clear hge i7
   go_cut [108] (fun s wx=>s=.bool false∧Wq (mayT W15 lo lx) W15 wx)
   case first =>
    refine cZ0 (n:=7) (S:=fun w'=>Below W15.heap.size W15 w') (ds:=[5]) (bm 7 0) (by kernel_rfl) rfl (by kernel_rfl) (Below.refl _ _).drew (fun hHeld=>?_)
    refine bZa mem.tab17 mem.bits17 (fun HT_ HW_=>?_)
    refine aZC (i:=1) (N:=some 103) (v:=?_) (a':=?_) (bm 7 2) rfl rfl (aZl HT_.out (by kernel_rfl)) (fun _ _ _ h=>h) (Or.inl ⟨by rfl,?_⟩) ?_ ?_;rotate_left;(intro w';go_simp;with_reducible rfl);rotate_left;(simp only [Act.put,sZa,sZb,sZc];rfl)
    refine aZC (i:=2) (N:=some 104) (v:=?_) (a':=?_) (bm 7 6) rfl rfl (aZl HT_.out (by kernel_rfl)) (fun _ _ _ h=>h) (Or.inl ⟨by rfl,?_⟩) ?_ ?_;rotate_left;(intro w';go_simp;with_reducible rfl);rotate_left;(simp only [Act.put,sZa,sZb,sZc];rfl)
    refine aZC (i:=3) (N:=some 105) (v:=?_) (a':=?_) (bm 7 14) rfl rfl (aZl HT_.out (by kernel_rfl)) (fun _ _ _ h=>h) (Or.inl ⟨by rfl,?_⟩) ?_ ?_;rotate_left;(intro w';go_simp;with_reducible rfl);rotate_left;(simp only [Act.put,sZa,sZb,sZc];rfl)
    refine aZC (i:=4) (N:=some 106) (v:=?_) (a':=?_) (bm 7 30) rfl rfl (aZl HT_.out (by kernel_rfl)) (fun _ _ _ h=>h) (Or.inl ⟨by rfl,?_⟩) ?_ ?_;rotate_left;(intro w';go_simp;with_reducible rfl);rotate_left;(simp only [Act.put,sZa,sZb,sZc];rfl)
    refine take_ (i:=0) (N:=some 102) (v:=?_) (a':=?_) (bm 7 31) rfl rfl (aZz HT_.out HW_.out (by kernel_rfl)) (fun _ _ _ h=>h) (Or.inl ⟨by rfl,?_⟩) hHeld ?_ ?_
    rotate_left
    ·
     intro w' hS'
     refine dZj (x:=.tmp 5) rfl ?_ ?_ (aZc HQ15.out.box hS')
     all_goals exact rfl
    rotate_left
    ·
     simp only [Act.put,sZa,sZb,sZc]
     rfl
    refine gZp (i:=5) (N:=some 107) (bm 7 63) rfl rfl (aZU HT_.out (by kernel_rfl)) (by decide) (fun K hK=>?_)
    go_simp
    go_at_call 22
    (refine (show Calls _ _ _ _ _ from anew_any _ lo (mayT W15 lo lx) Bb cB D0 D1 D2 D3 D4 d0 d1 d2 d3 d4 g bs f hle G HMB.out (fun X W' hb hX=>(HQ15.out.next hHeld).anew lx (Kd.R_below HC15.out hHeld) hle (fun k cur h1 h2 h3=>⟨h1,h2,cur,66,(hHeld.block k (Nat.lt_of_lt_of_le h2 HSZ.out.1)).symm.trans h3,.inl rfl⟩) X W' hb hX)).mono ?_)
    rintro e w1 ⟨rfl,hqw⟩
    have hq:=(Wq.below (may:=mayT W15 lo lx) hHeld).trans hqw
    refine hK.out _ _ ?_
    clear hK K
    refine aZC (i:=6) (N:=some 108) (v:=?_) (a':=?_) (bm 7 127) rfl rfl (aZl HT_.out (by kernel_rfl)) (fun _ _ _ h=>h) (Or.inl ⟨by rfl,?_⟩) ?_ ?_;rotate_left;(intro w';go_simp;with_reducible rfl);rotate_left;(simp only [Act.put,sZa,sZb,sZc];rfl)
    refine eZl (bZ8 HT_.out (by kernel_rfl)) ?_
    go_wp2_with (fail)
    go_meet
    exact ⟨rfl,hq⟩
   case rest =>
   obtain ⟨rfl,hq⟩:=hcut
   obtain ⟨V,hV⟩:∃ V,V=wc:=⟨_,rfl⟩
   subst hV
   have hlo1:=HLO.out.1
   have hlo2:=HLO.out.2.1
   have hlo3:=HLO.out.2.2.1
   have hx1:=HX15.out.2.2
   have hy1:=HY15.out.2.2
   have hsz:=HSZ.out
   have hmst:Mst w V lo lx hx ly hy W10.heap.size W11.heap.size W12.heap.size Bb bs.length cB A0 A1 A2 A3 A4 c0 c1 c2 c3 c4 g E0 E1 E2 E3 E4 e0 e1 e2 e3 e4 F0 F1 F2 F3 F4 f0 f1 f2 f3 f4 gb Al Am cl cm (toldR (aZt g)):=by
    obtain ⟨cur,q1,q2⟩:=HQ15.out.rowB
    obtain ⟨cur',q3,q4⟩:=hq.row Bb cur 5 q1
    refine ⟨wq_below ST15.out.below hq (fun k h=>by have:=h.1;omega),hq.same ST15.out.box (fun h=>by have:=h.1;omega),HX15.out.1.wq hq (fun k h=>h.2.1),hq.same HX15.out.2.1 (fun h=>by have:=h.2.1;omega),HY15.out.1.wq hq (fun k h=>.inl (by have:=h.2.1;omega)),hq.same HY15.out.2.1 (fun h=>by have:=h.2.1;omega),HL15.out.1.next hq.row (fun k cells hk hc=>hq.block k (aZd hc) (fun h=>by have:=h.2.1;omega)),S_wq HM15.out.1 hq (fun k h=>.inl (by have:=h.2.1;omega)),.inr ⟨Bb,cB,cur',rfl,hlo2,hlo3,q3,hle,HLO.out.2.2.2,by omega⟩,?_⟩
    have:=hq.size
    omega
   clear hlo1 hlo2 hlo3 hx1 hy1 hsz hq ST15 HQ15 HC15 HX15 HY15 HL15 HM15 HMB
   have HTL:=hid_ (told_len g)
   generalize htd:toldR (aZt g)=told at hmst HTL ⊢
   have HTD:=hid_ htd
   have MS:=hid_ hmst
   generalize W10.heap.size=sa at hmst MS
   generalize W11.heap.size=sb at hmst MS
   generalize W12.heap.size=sc at hmst MS
   clear hmst htd HSZ HZ11 HZ12 HZ13 HZ14 HZ15
   go_wp2_with (fail)
   go_loopw [111] (fun s111 wr=>∃ j:Nat,s111=.int .i64 j∧j≤told.length∧Mst w wr lo lx hx ly hy sa sb sc Bb bs.length cB A0 A1 A2 A3 A4 c0 c1 c2 c3 c4 g E0 E1 E2 E3 E4 e0 e1 e2 e3 e4 F0 F1 F2 F3 F4 f0 f1 f2 f3 f4 gb Al Am cl cm told) (fun s111 _=>told.length - (intOf s111).toNat)
   case atStart=>exact ⟨0,rfl,Nat.zero_le _,MS.out⟩
   case round =>
    obtain ⟨j,rfl,hj,ms⟩:=hrel
    by_cases hlt:j<told.length
    ·
     obtain ⟨b,cc,A,ni,ci,hAl,hcell,hni,hrow⟩:=ms.l.at j hlt
     simp only [Value.slice.injEq] at hAl
     obtain ⟨rfl,-,rfl⟩:=hAl
     have ho:=ms.ord
     have HH:=hid_ (And.intro ms (And.intro hrow (And.intro hni ho)))
     have j0:(0:Int)≤(j:Int):=by omega
     have j1:(j:Int)<(told.length:Int):=by omega
     have hb9:told.length≤32768:=HTL.out
     clear ms hrow ho
     go_wp2_with (fail)
     refine (show Calls _ _ _ _ _ from wipe23 wr (.slice A ni ci) 99 ni HH.out.2.1.L (Nat.le_trans (Nat.mul_le_mul_right 8 (show ni+80≤100080 by omega)) (by decide))).mono ?_
     rintro e W20 ⟨⟨xv,rfl⟩,hz⟩
     have ho:=HH.out.2.2.2
     have MS2:=hid_ (HH.out.1.wz HH.out.2.1 ⟨by decide,by decide,by decide,by decide⟩ (by omega) (.inr (by omega)) (.inl (Nat.le_refl _)) hz)
     clear hz ho HH
     go_wp2_with (fail)
     go_roundw
     case rel=>exact ⟨j+1,by go_num,hlt,MS2.out⟩
     case measure=>simp [intOf];omega
    ·
     have hge:¬(j:Int)<(told.length:Int):=by omega
     obtain ⟨V1,hV1⟩:∃ V1,V1=wr:=⟨_,rfl⟩
     subst hV1
     have MS1:=hid_ ms
     obtain ⟨x0,x1,x2,x3,x4,x5,x6⟩:=aZm ms.boxX
     clear hlt hj ms MS
     go_wp2_with (fail)
     clear x0 x1 x2 x3 x4 x5 x6
     have hsm:=HSM.out
     refine (show Calls _ _ _ _ _ from wipe24 V1 (.slice E0 gb.T.length e0) ⟨#[63]⟩ gb.T.length MS1.out.x.T.L (Nat.le_trans (Nat.mul_le_mul_right 16 (show gb.T.length+80≤5000 by omega)) (by decide))).mono ?_
     rintro e V2 ⟨⟨xv,rfl⟩,hz⟩
     have ho:=MS1.out.ord
     have MS2:=hid_ (MS1.out.wz MS1.out.x.T ⟨by decide,by decide,by decide,by decide⟩ (by omega) (.inl (by omega)) (.inl (by omega)) hz)
     clear hz ho MS1
     obtain ⟨x0,x1,x2,x3,x4,x5,x6⟩:=aZm MS2.out.boxX
     go_wp2_with (fail)
     clear x0 x1 x2 x3 x4 x5 x6
     refine (show Calls _ _ _ _ _ from wipe25 V2 (.slice E1 gb.N.length e1) (-1) gb.N.length MS2.out.x.N.L (Nat.le_trans (Nat.mul_le_mul_right 8 (show gb.N.length+80≤5000 by omega)) (by decide))).mono ?_
     rintro e V3 ⟨⟨xv2,rfl⟩,hz⟩
     have ho:=MS2.out.ord
     have MS3:=hid_ (MS2.out.wz MS2.out.x.N ⟨by decide,by decide,by decide,by decide⟩ (by omega) (.inl (by omega)) (.inl (by omega)) hz)
     clear hz ho MS2
     obtain ⟨x0,x1,x2,x3,x4,x5,x6⟩:=aZm MS3.out.boxX
     go_wp2_with (fail)
     clear x0 x1 x2 x3 x4 x5 x6
     go_loopw [129] (fun s129 wr=>∃ j:Nat,s129=.int .i64 j∧j≤gb.S.length∧Mst w wr lo lx hx ly hy sa sb sc Bb bs.length cB A0 A1 A2 A3 A4 c0 c1 c2 c3 c4 g E0 E1 E2 E3 E4 e0 e1 e2 e3 e4 F0 F1 F2 F3 F4 f0 f1 f2 f3 f4 gb Al Am cl cm told) (fun s129 _=>gb.S.length - (intOf s129).toNat)
     case atStart=>exact ⟨0,rfl,Nat.zero_le _,MS3.out⟩
     case round =>
      obtain ⟨j,rfl,hj,ms⟩:=hrel
      by_cases hlt:j<gb.S.length
      ·
       obtain ⟨b,cc,A,ni,ci,hAl,hcell,hni,hrow⟩:=ms.x.S.at j hlt
       simp only [Value.slice.injEq] at hAl
       obtain ⟨rfl,-,rfl⟩:=hAl
       have ho:=ms.ord
       obtain ⟨x0,x1,x2,x3,x4,x5,x6⟩:=aZm ms.boxX
       have HH:=hid_ (And.intro ms (And.intro hrow (And.intro hni ho)))
       have j0:(0:Int)≤(j:Int):=by omega
       have j1:(j:Int)<(gb.S.length:Int):=by omega
       have hb9:gb.S.length≤4096:=HSM.out.2.2.1
       clear ms hrow ho
       go_wp2_with (fail)
       clear x0 x1 x2 x3 x4 x5 x6
       refine (show Calls _ _ _ _ _ from wipe24 wr (.slice A ni ci) ⟨#[63]⟩ ni HH.out.2.1.L (Nat.le_trans (Nat.mul_le_mul_right 16 (show ni+80≤5000 by omega)) (by decide))).mono ?_
       rintro e W20 ⟨⟨xv,rfl⟩,hz⟩
       have ho:=HH.out.2.2.2
       have MS2:=hid_ (HH.out.1.wz HH.out.2.1 ⟨by decide,by decide,by decide,by decide⟩ (by omega) (.inl (by omega)) (.inl (by omega)) hz)
       clear hz ho HH
       go_wp2_with (fail)
       go_roundw
       case rel=>exact ⟨j+1,by go_num,hlt,MS2.out⟩
       case measure=>simp [intOf];omega
      ·
       have hge:¬(j:Int)<(gb.S.length:Int):=by omega
       obtain ⟨V4,hV1⟩:∃ V1,V1=wr:=⟨_,rfl⟩
       subst hV1
       have MS4:=hid_ ms
       clear hlt hj ms MS3
       obtain ⟨x0,x1,x2,x3,x4,x5,x6⟩:=aZm MS4.out.boxX
       go_wp2_with (fail)
       clear x0 x1 x2 x3 x4 x5 x6
       go_loopw [142] (fun s142 wr=>∃ j:Nat,s142=.int .i64 j∧j≤gb.M.length∧Mst w wr lo lx hx ly hy sa sb sc Bb bs.length cB A0 A1 A2 A3 A4 c0 c1 c2 c3 c4 g E0 E1 E2 E3 E4 e0 e1 e2 e3 e4 F0 F1 F2 F3 F4 f0 f1 f2 f3 f4 gb Al Am cl cm told) (fun s142 _=>gb.M.length - (intOf s142).toNat)
       case atStart=>exact ⟨0,rfl,Nat.zero_le _,MS4.out⟩
       case round =>
        obtain ⟨j,rfl,hj,ms⟩:=hrel
        by_cases hlt:j<gb.M.length
        ·
         obtain ⟨b,cc,A,ni,ci,hAl,hcell,hni,hrow⟩:=ms.x.M.at j hlt
         simp only [Value.slice.injEq] at hAl
         obtain ⟨rfl,-,rfl⟩:=hAl
         have ho:=ms.ord
         obtain ⟨x0,x1,x2,x3,x4,x5,x6⟩:=aZm ms.boxX
         have HH:=hid_ (And.intro ms (And.intro hrow (And.intro hni ho)))
         have j0:(0:Int)≤(j:Int):=by omega
         have j1:(j:Int)<(gb.M.length:Int):=by omega
         have hb9:gb.M.length≤4096:=HSM.out.2.2.2.1
         clear ms hrow ho
         go_wp2_with (fail)
         clear x0 x1 x2 x3 x4 x5 x6
         refine (show Calls _ _ _ _ _ from wipe25 wr (.slice A ni ci) (-1) ni HH.out.2.1.L (Nat.le_trans (Nat.mul_le_mul_right 8 (show ni+80≤5000 by omega)) (by decide))).mono ?_
         rintro e W20 ⟨⟨xv,rfl⟩,hz⟩
         have ho:=HH.out.2.2.2
         have MS2:=hid_ (HH.out.1.wz HH.out.2.1 ⟨by decide,by decide,by decide,by decide⟩ (by omega) (.inl (by omega)) (.inl (by omega)) hz)
         clear hz ho HH
         go_wp2_with (fail)
         go_roundw
         case rel=>exact ⟨j+1,by go_num,hlt,MS2.out⟩
         case measure=>simp [intOf];omega
        ·
         have hge:¬(j:Int)<(gb.M.length:Int):=by omega
         obtain ⟨V5,hV1⟩:∃ V1,V1=wr:=⟨_,rfl⟩
         subst hV1
         have MS5:=hid_ ms
         clear hlt hj ms MS4
         obtain ⟨x0,x1,x2,x3,x4,x5,x6⟩:=aZm MS5.out.boxX
         go_wp2_with (fail)
         clear x0 x1 x2 x3 x4 x5 x6
         have hsm:=HSM.out
         refine (show Calls _ _ _ _ _ from wipe26 V5 (.slice E4 gb.C.length e4) 99 0 0 0 gb.C.length MS5.out.x.C.L (Nat.le_trans (Nat.mul_le_mul_right 32 (show gb.C.length+80≤40000 by omega)) (by decide))).mono ?_
         rintro e V6 ⟨⟨xv,rfl⟩,hz⟩
         have ho:=MS5.out.ord
         have MS6:=hid_ (MS5.out.wz MS5.out.x.C ⟨by decide,by decide,by decide,by decide⟩ (by omega) (.inl (by omega)) (.inl (by omega)) hz)
         clear hz ho MS5
         go_wp2_with (fail)
         refine (show Calls _ _ _ _ _ from wipe27 V6 (.slice (some ⟨Bb,0,none⟩) bs.length cB) 0 bs.length MS6.out.bt.L (by rw [Nat.mul_one];omega)).mono ?_
         rintro e V7 ⟨⟨xv2,rfl⟩,hz⟩
         have ho:=MS6.out.ord
         have MS7:=hid_ (MS6.out.wz MS6.out.bt ⟨by decide,by decide,by decide,by decide⟩ (Nat.le_refl _) (.inl (by omega)) (.inl (by omega)) hz)
         clear hz ho MS6
         obtain ⟨x0,x1,x2,x3,x4,x5,x6⟩:=aZm MS7.out.boxP
         go_wp2_with (fail)
         clear x0 x1 x2 x3 x4 x5 x6
         refine (show Calls _ _ _ _ _ from gZT V7 A0 A1 A2 A3 A4 c0 c1 c2 c3 c4 g (HI0.out.below MS7.out.below) f).mono ?_
         rintro e V8 ⟨rv,rfl,hrv,bel⟩
         rw [HTD.out] at hrv
         have MS8:=hid_ (MS7.out.next bel)
         obtain ⟨Ar,cr,rfl⟩:=Kd.R_slice hrv
         have hrt:=hZk hrv
         have hrs:=MS7.out.ord.2.2.2.2.2.2.2.2
         generalize V8.heap.size=rt at hrt
         generalize V7.heap.size=rv0 at hrt hrs
         have HRV:=hid_ (And.intro hrt hrs)
         generalize codeR (errR (aZt g))=cn
         generalize atR (errR (aZt g))=ca
         clear hrv hrt hrs bel MS7
         have p1:=heap_alloc_new V8 (rdO 0 0)
         have p2:=aZa (Below.refl V8.heap.size V8) (rdO 0 0)
         go_upto_region 39 with ((with_reducible refine aZD (t:=41) (p:=22) rfl ?_);refine wpList_store_row rfl 41 (.tmp 22) (.tmp 165) rfl V8.heap.size (rdC cn ca) rfl rfl 41 (rdC 0 0) p1 (bZe cn ca) (bZg 0 0 cn ca) (bZ5 cn ca) ?_)
         have bel:Below V8.heap.size V8 ((V8.alloc (rdO 0 0)).setRow V8.heap.size (rdC cn ca)):=below_setRow p2 (Nat.le_refl _) _
         have MS9:=hid_ (MS8.out.next bel)
         have HRV9:=hid_ (And.intro (Kd.R_below HRV.out.1 bel) HRV.out.2)
         clear p1 p2 bel MS8 HRV
         generalize (V8.alloc (rdO 0 0)).setRow V8.heap.size (rdC cn ca)=V9 at MS9 HRV9 ⊢
         generalize V8.heap.size=X22
         go_wp2_with (fail)
         refine (show Calls _ _ _ _ _ from eZc V9 Ab cb bs (Kd.C_below HB0.out MS9.out.below) hc G).mono ?_
         rintro e V10 ⟨vz,rfl,hpz,bel⟩
         rw [HGB.out] at hpz
         generalize bmostR (aZE bs)=most2
         generalize bstepsR (aZE bs)=steps2
         generalize codeR (errR (aZE bs))=cn2
         generalize atR (errR (aZE bs))=ca2
         obtain ⟨G0,G1,G2,G3,G4,g0,g1,g2,g3,g4,rfl,hIG⟩:=hpz.read
         have MS10:=hid_ (MS9.out.next bel)
         have HRV10:=hid_ (And.intro (Kd.R_below HRV9.out.1 bel) HRV9.out.2)
         have HIG:=hid_ hIG
         clear hpz hIG bel MS9 HRV9
         unfold aZ6
         obtain ⟨p0,p1,p2,p3⟩:=bZj V10 (.cells #[.slice G0 gb.T.length g0,.slice G1 gb.N.length g1,.slice G2 gb.S.length g2,.slice G3 gb.M.length g3,.slice G4 gb.C.length g4,.int .i64 gb.dep,.int .i64 gb.loc] 28) (.cells #[.int .i64 most2,.int .i64 steps2] 31) (rdO 0 0)
         go_upto_region 40 with ((with_reducible refine aZD (t:=41) (p:=25) rfl ?_);refine wpList_store_row rfl 41 (.tmp 25) (.tmp 171) rfl (V10.heap.size+1+1) (rdC cn2 ca2) rfl rfl 41 (rdC 0 0) p2 (bZe cn2 ca2) (bZg 0 0 cn2 ca2) (bZ5 cn2 ca2) ?_)
         generalize ((V10.alloc (.cells #[.slice G0 gb.T.length g0,.slice G1 gb.N.length g1,.slice G2 gb.S.length g2,.slice G3 gb.M.length g3,.slice G4 gb.C.length g4,.int .i64 gb.dep,.int .i64 gb.loc] 28)).alloc (.cells #[.int .i64 most2,.int .i64 steps2] 31)).alloc (rdO 0 0)=W5 at p0 p1 p2 p3 ⊢
         have q0:=(aZk _ (V10.heap.size+1+1) (rdC cn2 ca2) V10.heap.size (by omega)).trans p0
         have bel:Below V10.heap.size V10 (W5.setRow (V10.heap.size+1+1) (rdC cn2 ca2)):=below_setRow p3 (by omega) _
         have MS11:=hid_ (MS10.out.next bel)
         have HRV11:=hid_ (And.intro (Kd.R_below HRV10.out.1 bel) HRV10.out.2)
         have HIG11:=hid_ (And.intro (HIG.out.below bel) q0)
         clear p0 p1 p2 p3 q0 bel MS10 HRV10 HIG
         generalize W5.setRow (V10.heap.size+1+1) (rdC cn2 ca2)=V11 at MS11 HRV11 HIG11 ⊢
         generalize V10.heap.size+1+1=X25
         generalize V10.heap.size+1=X24
         generalize V10.heap.size=X23 at HIG11 ⊢
         obtain ⟨x0,x1,x2,x3,x4,x5,x6⟩:=aZm MS11.out.boxY
         obtain ⟨y0,y1,y2,y3,y4,y5,y6⟩:=aZm HIG11.out.2
         go_wp2_with (fail)
         clear x0 x1 x2 x3 x4 x5 x6 y0 y1 y2 y3 y4 y5 y6
         have hfg:=hZv bs G
         rw [HGB.out] at hfg
         refine (show Calls _ _ _ _ _ from fZG V11 F0 F1 F2 F3 F4 f0 f1 f2 f3 f4 gb G0 G1 G2 G3 G4 g0 g1 g2 g3 g4 HIG11.out.1 MS11.out.y.pg hfg).mono ?_
         rintro e V12 ⟨rfl,bel⟩
         have hrv:=Kd.R_below HRV11.out.1 bel
         have hrv0:=HRV11.out.2
         have MS12:=MS11.out.next bel
         have hsh:=fZa g
         rw [HTD.out] at hsh
         have HSH:=hid_ hsh
         obtain ⟨fo,hmr⟩:=MRow.start MS12.m
         have hbw:=MS12.below
         have hws:w.heap.size≤sb:=by have:=MS12.ord;omega
         have HST:=hid_ (And.intro hbw (And.intro hmr hrv))
         have HWS:=hid_ (And.intro hws hrv0)
         clear hfg bel MS11 HRV11 HIG11 MS12 hsh hmr hrv hrv0 hbw hws HSM HBY HGB HTD
         go_wp2_with (fail)
         go_loopw [26] (fun s26 wr=>∃ j:Nat,s26=.int .i64 j∧j≤told.length∧Below w.heap.size w wr∧MRow wr sb sc fo Am told j∧kStk.R 23 wr rv0 (fun k=>k<rt) (.slice Ar told.length cr) told) (fun s26 _=>told.length - (intOf s26).toNat)
         case atStart=>exact ⟨0,rfl,Nat.zero_le _,HST.out⟩
         case round =>
          obtain ⟨j,rfl,hj,hbw,hmr,hrv⟩:=hrel
          by_cases hlt:j<told.length
          ·
           obtain ⟨bm,Bj,cj,hAm,k0,hR⟩:=hmr.at hlt
           subst hAm
           obtain ⟨ar,har,B2,d2,k3,k4,k5⟩:=row_at2 (Kd.R_reads' hrv).2.2 j hlt
           subst har
           have hsl:(told.getD j []).length≤100000:=HSH.out _ (by rw [List.getD_eq_getElem?_getD,List.getElem?_eq_getElem hlt];exact List.getElem_mem hlt)
           generalize told.getD j []=lj at k0 hR k3 k4 k5 hsl
           obtain ⟨-,k1,k2⟩:=Kd.R_reads' hR
           have hcall:∀ W',Below wr.heap.size wr W'→Calls Try.prog 17 #[.slice Bj lj.length cj,.slice B2 lj.length d2] W' fun e w'=>e=.returned (.bool true)∧Below wr.heap.size wr w':=fun W' hb =>
            (fZH W' Bj B2 cj d2 lj hsl (Kd.C_below k2 hb) k1 (Kd.C_below k5 hb) k4).mono (fun e w' h=>⟨h.1,hb.trans ((Drawn0.below_ h.2).mono hb.size)⟩)
           have hSof:∀ W',Below wr.heap.size wr W'→(W'.cell? ⟨bm,j,none⟩=some (.slice Bj lj.length cj)∧W'.cell? (ar.add j)=some (.slice B2 lj.length d2)∧Below wr.heap.size wr W'):=fun W' hb=>⟨aZe hb k0,aZe hb k3,hb⟩
           have HSOF:=hid_ hSof
           have HCALL:=hid_ hcall
           have HBB:=hid_ (And.intro hbw (And.intro hmr (And.intro hrv hR)))
           have HSL:=hid_ hsl
           have hb9:told.length≤32768:=HTL.out
           have i0:(0:Int)≤(j:Int):=by omega
           have i1:(j:Int)<(told.length:Int):=by omega
           have hm1:told.length - (intOf (.int .i64 ((j:Int)+1))).toNat<told.length - (intOf (.int .i64 (j:Int))).toNat:=by simp [intOf];omega
           clear hcall hSof hbw hmr hrv hR k1 k2 k4 k5 hsl
           go_upto_region 45 with (fail)
           go_region_held3 (fun w'=>w'.cell? ⟨bm,j,none⟩=some (.slice Bj lj.length cj)∧w'.cell? (ar.add j)=some (.slice B2 lj.length d2)∧Below wr.heap.size wr w') (first|assumption|exact HSOF.out _ (Below.refl _ _).drew) ((go_at_call 17;(with_reducible refine (HCALL.out _ (And.right (And.right (by assumption)))).mono ?_);rintro e w1' ⟨rfl,bel1⟩;have hS1:=HSOF.out _ bel1))
           obtain ⟨k6,-,-⟩:=hS1
           go_wp2_with (fail)
           have hR2:=Kd.R_below HBB.out.2.2.2 bel1
           refine (show Calls _ _ _ _ _ from wipe23 w1' (.slice Bj lj.length cj) 77 lj.length (cZS hR2).L (Nat.le_trans (Nat.mul_le_mul_right 8 (show lj.length+80≤100080 by have:=HSL.out;omega)) (by decide))).mono ?_
           rintro e w2 ⟨⟨xv,rfl⟩,hz⟩
           have HN:=hid_ (And.intro (hZn (HBB.out.1.trans (bel1.mono HBB.out.1.size)) (cZS hR2) HWS.out.1 hz) (And.intro ((HBB.out.2.1.grow bel1).wipe hR2 hz) (R_wz (Kd.R_below HBB.out.2.2.1 bel1) hz (Nat.le_refl _) (fun k hk=>.inl (by have:=(hR2.1 k hk.symm).1;have:=HWS.out.2;omega)))))
           clear hz hR2 k6
           go_wp2_with (fail)
           go_roundw
           case rel=>exact ⟨j+1,by go_num,hlt,HN.out⟩
           case measure=>exact hm1
          ·
           have hge:¬(j:Int)<(told.length:Int):=by omega
           have HBB:=hid_ hbw
           clear hbw hmr hrv hlt HST
           go_wp2_with (fail)
           go_ret
           exact ⟨rfl,HBB.out⟩
noncomputable def berthlaw21_AuditMemory.f (T:List ByteArray) (N:List Int) (S:List (List ByteArray)) (M:List (List Int)) (C:List S66) (d l:Int) (b:List Int):Option Bool:=@ite _ (FitsB ⟨T,N,S,M,C,d,l⟩∧Good b∧b.length≤140737488351232) (Classical.propDecidable _) (some true) none
theorem berthlaw21_AuditMemory.calls (A0:Option Addr) (c0:Nat) (T:List ByteArray) (A1:Option Addr) (c1:Nat) (N:List Int) (A2:Option Addr) (c2:Nat) (S:List (List ByteArray)) (A3:Option Addr) (c3:Nat) (M:List (List Int)) (A4:Option Addr) (c4:Nat) (C:List S66) (d l:Int) (B:Option Addr) (cb:Nat) (b:List Int) (r:Bool) (w:World)
 (hT:Kd.C Kd.string w A0 T.length T) (lT:T.length≤c0) (hN:Kd.C (Kd.int .i64) w A1 N.length N) (lN:N.length≤c1) (hS:Kd.C (Kd.slice 9 Kd.string) w A2 S.length S) (lS:S.length≤c2) (hM:Kd.C (Kd.slice 3 (Kd.int .i64)) w A3 M.length M) (lM:M.length≤c3) (hC:Kd.C k66 w A4 C.length C) (lC:C.length≤c4) (hB:Kd.C (Kd.int .u8) w B b.length b) (lB:b.length≤cb)
 (h:berthlaw21_AuditMemory.f T N S M C d l b=some r) :
 Calls Try.prog 8 #[.agg #[.slice A0 T.length c0,.slice A1 N.length c1,.slice A2 S.length c2,.slice A3 M.length c3,.slice A4 C.length c4,.int .i64 d,.int .i64 l],.slice B b.length cb] w fun e w'=>e=.returned (.bool r)∧Below w.heap.size w w':=by
 unfold berthlaw21_AuditMemory.f at h
 split at h
 ·
  next f =>
  obtain ⟨f1,f2,f3⟩:=f
  obtain rfl:=Option.some.inj h
  exact hZ8 w A0 A1 A2 A3 A4 c0 c1 c2 c3 c4 ⟨T,N,S,M,C,d,l⟩ ⟨hT,hN,hS,hM,hC,lT,lN,lS,lM,lC⟩ f1 B cb b hB lB f2 f3
 · cases h
end Go.Proofs.Ytbnplhmmbnmagaa.D
