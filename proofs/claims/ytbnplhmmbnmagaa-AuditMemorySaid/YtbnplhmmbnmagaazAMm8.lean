/- The audit's walks: a way leads to a place. -/
import Derived.Test.YtbnplhmmbnmagaazAMm7
import Derived.Deep.RegionHeld3
import Derived.Deep.DrawnRows
import Derived.Deep.DeepCutAuto
set_option maxHeartbeats 4000000
set_option maxRecDepth 100000
set_option linter.all false
namespace Go.Proofs.Ytbnplhmmbnmagaa.D
open Go.RowKit Go.Proofs.YtbnplhmmbnmagaaW.PrintWords Go.Proofs.YtbnplhmmbnmagaaW.PrintLast Go.Proofs.YtbnplhmmbnmagaaW.PrintMore Go.Proofs.Ytbnplhmmbnmagaa.All
open Go.ChangeMaps Go.MapKept
def HS.own (h:HS) (k:Nat):Prop:=k=h.p∨h.vs.ownBlock=some k∨h.vl.ownBlock=some k
structure IsSt (W:World) (base:Nat) (h:HS) (s:St):Prop where
  blk:W.heap[h.p]?=some (.cells #[h.vs,h.vl,.bool s.joined] 168 (0,0))
  stk:Row W base (fun k=>h.vs.ownBlock=some k) h.vs s.stk
  loc:Row W base (fun k=>h.vl.ownBlock=some k) h.vl s.loc
  ne:∀ k,h.vs.ownBlock=some k→h.vl.ownBlock≠some k
  lo:base≤h.p
theorem IsSt.keep {W W2:World} {base:Nat} {h:HS} {s:St} (hs:IsSt W base h s) (hk:∀ k,h.own k→k<W.heap.size→W2.heap[k]?=W.heap[k]?):IsSt W2 base h s :=
  ⟨(hk _ (.inl rfl) (aZd hs.blk)).trans hs.blk,Kd.R_step hs.stk (fun k h1 h2=>hk k (.inr (.inl h1)) h2),Kd.R_step hs.loc (fun k h1 h2=>hk k (.inr (.inr h1)) h2),hs.ne,hs.lo⟩
theorem IsSt.below {W W2:World} {base:Nat} {h:HS} {s:St} (hs:IsSt W base h s) (hb:Below W.heap.size W W2):IsSt W2 base h s:=hs.keep (fun k _ hk=>hb.block k hk)
theorem IsSt.cells {W:World} {base:Nat} {h:HS} {s:St} (hs:IsSt W base h s) :
    W.cell? ⟨h.p,0,none⟩=some h.vs∧W.cell? ⟨h.p,1,none⟩=some h.vl∧W.cell? ⟨h.p,2,none⟩=some (.bool s.joined)∧W.frozen? ⟨h.p,0,none⟩=false∧W.frozen? ⟨h.p,2,none⟩=false:=by
  have:=hs.blk
  simp [World.cell?,World.frozen?,this]
def updW (W:World) (m:Nat) (tgt:Int) (p:Addr):World :=
  match W.heap[m]? with
  | some (.map es clk) =>
    match Instr.findNow (.int .i64) (.int .i64 tgt) es.toList 0 with
    | some (some (i,_))=>setBlock W m (.map (es.modify i fun e=>{ e with key:=.int .i64 tgt,val:=.pointer (some p) }) clk)
    | _=>setBlock W m (.map (es.push { key:=.int .i64 tgt,val:=.pointer (some p),born:=clk }) (clk+1))
  | _=>W
theorem eZO (k:Int):∀ (es:List MapEntry) (i j:Nat) (v:Value),Instr.findNow (.int .i64) (.int .i64 k) es i=some (some (j,v))→i≤j∧∃ e,es[j - i]?=some e∧e.key=.int .i64 k
  | [],_,_,_,h=>by simp [Instr.findNow] at h
  | e :: es,i,j,v,h=>by
    unfold Instr.findNow at h
    split at h
    · rename_i hs
      simp only [Option.some.injEq,Prod.mk.injEq] at h
      obtain ⟨rfl,rfl⟩:=h
      refine ⟨Nat.le_refl _,e,by simp,?_⟩
      cases hk:e.key with
      | int q b =>
        rw [hk] at hs
        simp only [Instr.sameNow] at hs
        split at hs
        · rename_i hq
          subst hq
          simp only [Option.some.injEq,beq_iff_eq] at hs
          rw [hs]
        · cases hs
      | _=>rw [hk] at hs;simp [Instr.sameNow] at hs
    · obtain ⟨h1,e2,h2,h3⟩:=eZO k es (i+1) j v h
      refine ⟨by omega,e2,?_,h3⟩
      rw [show j - i=(j - (i+1))+1 by omega]
      simpa using h2
    · cases h
def IsMap (W:World) (m:Nat):Prop:=∃ es clk,W.heap[m]?=some (.map es clk)∧∀ e∈es.toList,∃ q,e.key=.int .i64 q
theorem cZX (k:Int):∀ (es:List MapEntry) (i:Nat),(∀ e∈es,∃ q,e.key=.int .i64 q)→∃ r,Instr.findNow (.int .i64) (.int .i64 k) es i=some r
 | [],i,_=>⟨none,rfl⟩
 | e :: es,i,h=>by
  obtain ⟨q,hq⟩:=h e List.mem_cons_self
  obtain ⟨r,hr⟩:=cZX k es (i+1) (fun e he=>h e (List.mem_cons_of_mem _ he))
  unfold Instr.findNow
  simp only [hq,Instr.sameNow,if_pos]
  by_cases hk:k=q
  ·
   subst hk
   exact ⟨some (i,e.val),by simp⟩
  ·
   have:(k == q)=false:=by rw [beq_eq_false_iff_ne];exact hk
   rw [this]
   exact ⟨r,hr⟩
theorem MapAt.isMap {W:World} {m:Nat} {M:List (Int × HS)} (h:MapAt W m M):IsMap W m:=by
  obtain ⟨es,clk,hb,he⟩:=h
  refine ⟨es,clk,hb,fun e hm=>?_⟩
  have h1:(e.key,e.val)∈M.map entV:=he▸List.mem_map_of_mem (f:=fun e:MapEntry=>(e.key,e.val)) hm
  obtain ⟨x,_,hx⟩:=List.mem_map.1 h1
  exact ⟨x.1,(congrArg Prod.fst hx).symm⟩
theorem run_stays (k:Int) (W:World):(Instr.keyThatStays (.int .i64 k) (.int .i64 k)).run Try.prog W=.ok (.int .i64 k) W:=by
  have h:Instr.sameBits 10000 (.int .i64 k) (.int .i64 k)=true:=by unfold Instr.sameBits;simp
  simp [Instr.keyThatStays,h]
theorem run_upd {W:World} {m:Nat} (h:IsMap W m) (k:Int) (p:Addr) :
    (Instr.mapUpdate 87 (.map (some m)) (.int .i64 k) (.pointer (some p))).run Try.prog W=.ok () (updW W m k p):=by
  obtain ⟨es,clk,hb,he⟩:=h
  obtain ⟨r,h1⟩:=cZX k es.toList 0 he
  unfold updW
  rw [hb]
  cases r with
  | none =>
    simp [Instr.mapUpdate,run_underlying Try.underlying87,MapKept.run_getObj_map hb,bZH,bZ2 h1,Result.andThen,MapKept.run_setObj_map _ hb,setBlock,h1]
  | some y =>
    obtain ⟨j,v⟩:=y
    obtain ⟨-,e,h2,h3⟩:=eZO k es.toList 0 _ _ h1
    have h4:es[j]?=some e:=by simpa using h2
    have h5:((es[j]?.map fun x=>x.key).getD (.int .i64 k))=.int .i64 k:=by rw [h4];simpa using h3
    simp [Instr.mapUpdate,run_underlying Try.underlying87,MapKept.run_getObj_map hb,bZH,bZ2 h1,Result.andThen,h5,run_stays,MapKept.run_setObj_map _ hb,setBlock,h1]
theorem updW_map {W:World} {m:Nat} {M:List (Int × HS)} (h:MapAt W m M) (k:Int) (x:HS) (hk:look M k=none):MapAt (updW W m k ⟨x.p,0,none⟩) m (M++[(k,x)]):=by
  obtain ⟨es,clk,hb,he⟩:=h
  obtain ⟨j,h1,-⟩:=cZY k es.toList M 0 he
  rw [hk] at h1
  simp only [Option.map_none] at h1
  unfold updW
  rw [hb]
  simp only [h1]
  exact ⟨_,_,heap_setBlock_same hb _,by simp [he,entV]⟩
theorem eZ9 {W:World} {m:Nat} (h:IsMap W m) (k:Int) (p:Addr):W.grownBy (updW W m k p) (some m)∧IsMap (updW W m k p) m:=by
 obtain ⟨es,clk,hb,he⟩:=h
 obtain ⟨r,h1⟩:=cZX k es.toList 0 he
 unfold updW
 rw [hb]
 simp only [h1]
 cases r with
 | none =>
  refine ⟨bZx hb,_,_,heap_setBlock_same hb _,fun e hm=>?_⟩
  rw [Array.toList_push,List.mem_append] at hm
  rcases hm with hm|hm
  · exact he e hm
  · rw [List.mem_singleton.1 hm];exact ⟨k,rfl⟩
 | some y =>
  obtain ⟨j,v⟩:=y
  refine ⟨bZx hb,_,_,heap_setBlock_same hb _,fun e hm=>?_⟩
  obtain ⟨i,hi,rfl⟩:=List.mem_iff_getElem.1 hm
  simp only [Array.getElem_toList,Array.getElem_modify]
  split
  · exact ⟨k,rfl⟩
  · exact he _ (by simp)
theorem MapAt.of_block {W W2:World} {m:Nat} {M:List (Int × HS)} (h:MapAt W m M) (e:W2.heap[m]?=W.heap[m]?):MapAt W2 m M:=by
  obtain ⟨es,clk,hb,he⟩:=h
  exact ⟨es,clk,e.trans hb,he⟩
theorem MapAt.lt {W:World} {m:Nat} {M:List (Int × HS)} (h:MapAt W m M):m<W.heap.size:=by
  obtain ⟨es,clk,hb,he⟩:=h
  exact aZd hb
theorem IsMap.of_block {W W2:World} {m:Nat} (h:IsMap W m) (e:W2.heap[m]?=W.heap[m]?):IsMap W2 m:=by
  obtain ⟨es,clk,hb,he⟩:=h
  exact ⟨es,clk,e.trans hb,he⟩
theorem IsMap.lt {W:World} {m:Nat} (h:IsMap W m):m<W.heap.size:=by
  obtain ⟨es,clk,hb,he⟩:=h
  exact aZd hb
theorem IsMap.ne {W:World} {m:Nat} (h:IsMap W m) {p i:Nat} {v:Value} (hc:W.cell? ⟨p,i,none⟩=some v):p≠m:=by
 rintro rfl
 obtain ⟨es,clk,hb,he⟩:=h
 simp [World.cell?,hb] at hc
theorem cZl {W W1 W2:World} {r:Option Nat} (h:W.grownBy W1 r) (k:W1.grownBy W2 r):W.grownBy W2 r :=
  ⟨k.os.trans h.os,k.tape.trans h.tape,k.output.trans h.output,Nat.le_trans h.size k.size,fun i hi hr=>(k.block i (Nat.lt_of_lt_of_le hi h.size) hr).trans (h.block i hi hr)⟩
theorem keepL {W W1 W2:World} {g m p:Nat} {vm v0 v1:Value} (h:W1.cell? ⟨g,8,none⟩=some vm∧W1.cell? ⟨p,0,none⟩=some v0∧W1.cell? ⟨p,1,none⟩=some v1∧IsMap W1 m∧W.grownBy W1 (some m)) (hb:Below W1.heap.size W1 W2) :
    W2.cell? ⟨g,8,none⟩=some vm∧W2.cell? ⟨p,0,none⟩=some v0∧W2.cell? ⟨p,1,none⟩=some v1∧IsMap W2 m∧W.grownBy W2 (some m):=by
  obtain ⟨h1,h2,h3,h4,h5⟩:=h
  exact ⟨(hb.cell (aZG h1)).trans h1,(hb.cell (aZG h2)).trans h2,(hb.cell (aZG h3)).trans h3,h4.of_block (hb.block _ h4.lt),cZl h5 (aZ0 hb _)⟩
theorem keepU {W W1:World} {g m p:Nat} {vm v0 v1:Value} (h:W1.cell? ⟨g,8,none⟩=some vm∧W1.cell? ⟨p,0,none⟩=some v0∧W1.cell? ⟨p,1,none⟩=some v1∧IsMap W1 m∧W.grownBy W1 (some m)) (k:Int) (q:Addr) :
    (updW W1 m k q).cell? ⟨g,8,none⟩=some vm∧(updW W1 m k q).cell? ⟨p,0,none⟩=some v0∧(updW W1 m k q).cell? ⟨p,1,none⟩=some v1∧IsMap (updW W1 m k q) m∧W.grownBy (updW W1 m k q) (some m):=by
  obtain ⟨h1,h2,h3,h4,h5⟩:=h
  obtain ⟨u1,u2⟩:=eZ9 h4 k q
  have far:∀ {p i:Nat} {v:Value},W1.cell? ⟨p,i,none⟩=some v→(updW W1 m k q).cell? ⟨p,i,none⟩=some v:=fun {p i v} h=>(World.cell?_of_block (a:=⟨p,i,none⟩) (u1.block p (aZG h) (fun e=>h4.ne h (Option.some.inj e)))).trans h
  exact ⟨far h1,far h2,far h3,u2,cZl h5 u1⟩
theorem Row.map_ne {W:World} {base m:Nat} {ok:Nat→Prop} {v:Value} {l:List Int} (h:Row W base ok v l) (hm:IsMap W m):v.ownBlock≠some m:=fun e=>by
  obtain ⟨inner,ho⟩:=Kd.R_own h
  obtain ⟨cells,hc⟩:=bZd ho m e
  obtain ⟨es,clk,hb,he⟩:=hm
  rw [hc] at hb
  cases hb
theorem cloneL {W W1:World} {base m:Nat} {A:Option Addr} {c:Nat} {l:List Int} (hm:IsMap W m) (hv:Row W base (fun k=>(Value.slice A l.length c).ownBlock=some k) (.slice A l.length c) l) (hl:l.length≤4096) {p1 p2 p3 p4:Prop} (h:p1∧p2∧p3∧p4∧W.grownBy W1 (some m)) :
    Calls Try.prog 94 #[.slice A l.length c] W1 fun e w'=>∃ v,e=.returned v∧Row w' W1.heap.size (fun _=>True) v l∧Below W1.heap.size W1 w':=by
  have hv2:=Kd.R_grown hv h.2.2.2.2 (fun k hk e=>Row.map_ne hv hm (hk.trans e))
  obtain ⟨A2,c2,e,hc,hC⟩:=Kd.R_reads hv2
  cases e
  exact gZH W1 A c l hC hc hl
theorem Row.own {W:World} {base:Nat} {ok:Nat→Prop} {v:Value} {l:List Int} (h:Row W base ok v l):Row W base (fun k=>v.ownBlock=some k) v l:=⟨fun _ h=>h,h.2⟩
theorem Row.lo {W:World} {base:Nat} {ok:Nat→Prop} {v:Value} {l:List Int} (h:Row W base ok v l) {k:Nat} (hk:v.ownBlock=some k):base≤k∧k<W.heap.size:=by
  obtain ⟨inner,ho⟩:=Kd.R_own h
  exact ⟨bZo ho k hk,own_lt ho k hk⟩
theorem new_done {W w1 w2:World} {m:Nat} {M:List (Int × HS)} {tgt:Int} {v1 v2:Value} {stk loc:List Int} (hM:MapAt W m M) (hl:look M tgt=none) (bel1:Below W.heap.size W w1) (bel2:Below w1.heap.size w1 w2)
 (hv1:Row w1 W.heap.size (fun _=>True) v1 stk) (hv2:Row w2 w1.heap.size (fun _=>True) v2 loc) :
 ∃ x:HS,MapAt (updW (w2.alloc (.cells #[v1,v2,.bool false] 168)) m tgt ⟨w2.heap.size,0,none⟩) m (M++[(tgt,x)])∧IsSt (updW (w2.alloc (.cells #[v1,v2,.bool false] 168)) m tgt ⟨w2.heap.size,0,none⟩) W.heap.size x ⟨stk,loc,false⟩ ∧
  W.grownBy (updW (w2.alloc (.cells #[v1,v2,.bool false] 168)) m tgt ⟨w2.heap.size,0,none⟩) (some m)∧∀ j,x.own j→W.heap.size≤j:=by
 have hml:=hM.lt
 have hb3:Below w2.heap.size w2 (w2.alloc (.cells #[v1,v2,.bool false] 168)):=aZa (Below.refl _ _) _
 have hW:=bel1.trans ((bel2.mono bel1.size).trans (hb3.mono (Nat.le_trans bel1.size bel2.size)))
 have hM3:MapAt (w2.alloc (.cells #[v1,v2,.bool false] 168)) m M:=hM.of_block (hW.block _ hml)
 have hnew:=heap_alloc_new w2 (.cells #[v1,v2,.bool false] 168)
 have r1:=Kd.R_below (Kd.R_below hv1 bel2) hb3
 have r2:=Kd.R_below hv2 hb3
 generalize w2.alloc (.cells #[v1,v2,.bool false] 168)=w3 at *
 obtain ⟨u1,u2⟩:=eZ9 hM3.isMap tgt ⟨w2.heap.size,0,none⟩
 have s1:=bel1.size
 have s2:=bel2.size
 have s3:=hb3.size
 have b1:∀ k,v1.ownBlock=some k→W.heap.size≤k∧k<w1.heap.size:=fun k hk=>Row.lo hv1 hk
 have b2:∀ k,v2.ownBlock=some k→w1.heap.size≤k∧k<w2.heap.size:=fun k hk=>Row.lo hv2 hk
 refine ⟨⟨w2.heap.size,v1,v2⟩,updW_map hM3 tgt ⟨w2.heap.size,v1,v2⟩ hl,⟨?_,?_,?_,?_,?_⟩,cZl (aZ0 hW _) u1,?_⟩
 · exact (u1.block _ (aZd hnew) (fun e=>by have:=Option.some.inj e;omega)).trans hnew
 · exact Kd.R_grown (Row.own r1) u1 (fun k hk e=>by have:=b1 k hk;have:=Option.some.inj e;omega)
 · exact Kd.R_lower (Kd.R_grown (Row.own r2) u1 (fun k hk e=>by have:=b2 k hk;have:=Option.some.inj e;omega)) s1
 · exact fun k h1 h2=>by have:=b1 k h1;have:=b2 k h2;omega
 · exact Nat.le_trans s1 s2
 ·
  rintro j (rfl|h|h)
  · exact Nat.le_trans s1 s2
  · exact (b1 j h).1
  · have:=(b2 j h).1;omega
theorem lead_new (k:Wk) (W:World) (tv:Value) (most:Int) (base:Nat) (h:k.blk W tv most) (M:List (Int × HS)) (hM:MapAt W k.m M) (tgt:Int) (hl:look M tgt=none) (now:HS) (s:St) (hs:IsSt W base now s) (l1:s.stk.length≤4096) (l2:s.loc.length≤4096) :
 Calls Try.prog 93 #[.pointer (some ⟨k.g,0,none⟩),.int .i64 tgt,.pointer (some ⟨now.p,0,none⟩)] W fun e w'=>e=.returned (.tuple #[]) ∧
  ∃ x:HS,MapAt w' k.m (M++[(tgt,x)])∧IsSt w' W.heap.size x ⟨s.stk,s.loc,false⟩∧W.grownBy w' (some k.m)∧∀ j,x.own j→W.heap.size≤j:=by
 obtain ⟨-,-,-,-,-,-,-,-,q8,-⟩:=Wk.cells h
 obtain ⟨n0,n1,-,-,-⟩:=hs.cells
 have hk:=cZs hM tgt
 rw [hl] at hk
 simp only [Option.map_none,Option.isSome_none] at hk
 have hm:=hM.isMap
 obtain ⟨A1,c1,e1⟩:=Kd.R_slice hs.stk
 obtain ⟨A2,c2,e2⟩:=Kd.R_slice hs.loc
 have r1:=hs.stk
 have r2:=hs.loc
 rw [e1] at n0 r1
 rw [e2] at n1 r2
 go_enter Try.func93,Try.ntmps93
 go_wp2_with (fail)
 have hu:=fun (W1:World) (p:Addr) (h:IsMap W1 k.m)=>run_upd h tgt p
 go_region_held3 (fun w'=>w'.cell? ⟨k.g,8,none⟩=some (.map (some k.m))∧w'.cell? ⟨now.p,0,none⟩=some (.slice A1 s.stk.length c1)∧w'.cell? ⟨now.p,1,none⟩=some (.slice A2 s.loc.length c2)∧IsMap w' k.m∧W.grownBy w' (some k.m))
  (first|exact ⟨q8,n0,n1,hm,aZ0 (Below.refl _ _).drew _⟩|exact keepL (by assumption) bel2|exact keepL (by assumption) bel1|exact keepL (by assumption) (aZa (Below.refl _ _) _)|exact keepU (by assumption) _ _)
  (first|(go_at_call 94;(with_reducible refine (cloneL hm r1 l1 (by assumption)).mono ?_);rintro e w1 ⟨v1,rfl,hv1,bel1⟩;obtain ⟨A3,c3,rfl⟩:=Kd.R_slice hv1)|(go_at_call 94;(with_reducible refine (cloneL hm r2 l2 (by assumption)).mono ?_);rintro e w2 ⟨v2,rfl,hv2,bel2⟩;obtain ⟨A4,c4,rfl⟩:=Kd.R_slice hv2))
 go_wp2_with (fail)
 refine bodyPost_ret (v:=.tuple #[]) (by simp [results,Try.results93]) rfl ?_
 exact ⟨rfl,new_done hM hl (show Below W.heap.size W w1 from ⟨bel1.os,bel1.tape,bel1.output,bel1.size,bel1.block⟩) bel2 hv1 hv2⟩
end Go.Proofs.Ytbnplhmmbnmagaa.D
namespace Go.Proofs.Ytbnplhmmbnmagaa.D
open Go.RowKit Go.Proofs.YtbnplhmmbnmagaaW.PrintWords Go.Proofs.YtbnplhmmbnmagaaW.PrintLast Go.Proofs.YtbnplhmmbnmagaaW.PrintMore Go.Proofs.Ytbnplhmmbnmagaa.All
theorem eq105_l (a b:List Int) (hl:a.length=b.length) (hn:a.length≤4096):∀ (d i k:Nat),i+d=a.length→d<k→(∀ j,j<i→a.getD j 0=b.getD j 0)→api_Cell_105.l0 k a b (a.length:Int) i=some (decide (a=b)):=by
 intro d
 induction d with
 | zero =>
  intro i k h1 h2 h3
  obtain ⟨k,rfl⟩:∃ m,k=m+1:=⟨k - 1,by omega⟩
  unfold api_Cell_105.l0
  rw [if_neg (by omega)]
  have:a=b:=by
   refine List.ext_getElem hl (fun j hj hj2=>?_)
   have:=h3 j (by omega)
   simpa [List.getD_eq_getElem?_getD,hj,hj2] using this
  rw [decide_eq_true this]
 | succ d ih =>
  intro i k h1 h2 h3
  obtain ⟨k,rfl⟩:∃ m,k=m+1:=⟨k - 1,by omega⟩
  unfold api_Cell_105.l0
  rw [if_pos (by omega),if_pos (by omega),if_pos (by omega),if_pos (by omega)]
  by_cases he:rd a i=rd b i
  ·
   rw [if_pos he,show wrap64 ((i:Int)+1)=((i+1:Nat):Int) by unfold wrap64;omega]
   refine ih (i+1) k (by omega) (by omega) (fun j hj=>?_)
   by_cases hji:j=i
   · subst hji;simpa [rd] using he
   · exact h3 j (by omega)
  ·
   rw [if_neg he]
   have:a≠b:=fun e=>he (by rw [e])
   rw [decide_eq_false this]
theorem eq105 (a b:List Int) (hn:a.length≤4096):∃ k,api_Cell_105.f k a b=some (decide (a=b)):=by
 refine ⟨a.length+1,?_⟩
 unfold api_Cell_105.f
 by_cases hl:a.length=b.length
 ·
  rw [if_pos (by omega)]
  exact eq105_l a b hl hn a.length 0 _ (by omega) (by omega) (fun j hj=>absurd hj (by omega))
 ·
  rw [if_neg (by omega)]
  rw [decide_eq_false (fun e=>hl (by rw [e]))]
def cZi (a b:List Int) (i:Nat):List Int:=(List.zipWith (fun x y=>if x=y then x else 0) (a.take i) (b.take i))++a.drop i
def aZH (a b:List Int):List Int:=List.zipWith (fun x y=>if x=y then x else 0) a b
theorem gZ2 (a b:List Int):cZi a b 0=a:=by simp [cZi]
theorem hZ7 (a b:List Int) (h:a.length=b.length):cZi a b a.length=aZH a b:=by
  unfold cZi aZH
  rw [List.drop_length,List.append_nil,List.take_length,h,List.take_length]
theorem fZR (a b:List Int) (h:a.length=b.length) (i:Nat) (hi:i≤a.length):(cZi a b i).length=a.length:=by
  simp [cZi];omega
theorem fZn (a b:List Int) (h:a.length=b.length) (i:Nat) (hi:i<a.length):(cZi a b i).getD i 0=a.getD i 0:=by
  unfold cZi
  have hz:(List.zipWith (fun x y=>if x=y then x else (0:Int)) (a.take i) (b.take i)).length=i:=by simp;omega
  simp only [List.getD_eq_getElem?_getD]
  rw [List.getElem?_append_right (by omega),hz,Nat.sub_self]
  simp
theorem eZG (a b:List Int) (h:a.length=b.length) (i:Nat) (hi:i<a.length) :
    cZi a b (i+1)=(cZi a b i).set i (if a.getD i 0=b.getD i 0 then a.getD i 0 else 0):=by
  unfold cZi
  have hz:(List.zipWith (fun x y=>if x=y then x else (0:Int)) (a.take i) (b.take i)).length=i:=by simp;omega
  rw [List.set_append_right _ _ (by omega),hz,Nat.sub_self,List.take_succ_eq_append_getElem hi,List.take_succ_eq_append_getElem (show i<b.length by omega),List.zipWith_append (by simp;omega)]
  rw [List.drop_eq_getElem_cons hi,List.set_cons_zero]
  simp [List.getD_eq_getElem?_getD,hi,show i<b.length by omega]
theorem gZ3 (a b:List Int) (h:a.length=b.length) (i:Nat) (hi:i<a.length) (he:a.getD i 0=b.getD i 0):cZi a b (i+1)=cZi a b i:=by
 rw [eZG a b h i hi,if_pos he,←fZn a b h i hi]
 refine List.ext_getElem (by simp) (fun j h1 h2=>?_)
 rw [List.getElem_set]
 split
 · rename_i hj;subst hj;simp [List.getD_eq_getElem?_getD,h2]
 · rfl
theorem equalS {W:World} {base:Nat} {A1 A2:Option Addr} {c1 c2:Nat} {a b:List Int} (k1:a.length≤c1) (r1:Kd.C (Kd.int .i64) W A1 a.length a) (k2:b.length≤c2) (r2:Kd.C (Kd.int .i64) W A2 b.length b) (hl:a.length≤4096) :
    Calls Try.prog 105 #[.slice A1 a.length c1,.slice A2 b.length c2] W.drew fun e w'=>e=.returned (.bool (decide (a=b)))∧Drawn0 W.drew w':=by
  obtain ⟨m,hm⟩:=eq105 a b hl
  exact api_Cell_105.calls m A1 c1 a A2 c2 b _ W.drew r1 k1 r2 k2 hm
theorem Row.p_ne {W:World} {base:Nat} {ok:Nat→Prop} {v:Value} {l:List Int} (h:Row W base ok v l) {p:Nat} {cs:Array Value} (hp:W.heap[p]?=some (.cells cs 168 (0,0))):∀ k,v.ownBlock=some k→k≠p:=fun k hk e=>by
  obtain ⟨inner,ho⟩:=Kd.R_own h
  obtain ⟨cells,hc⟩:=bZd ho k hk
  rw [e,hp] at hc
  cases hc
theorem IsSt.join {W:World} {base:Nat} {h:HS} {s:St} (hs:IsSt W base h s) (n:Nat) (b:Bool) :
    IsSt ((W.drewN n).setCell ⟨h.p,2,none⟩ (.bool b)) base h ⟨s.stk,s.loc,b⟩∧(∀ B,B≤h.p→Below B W ((W.drewN n).setCell ⟨h.p,2,none⟩ (.bool b)))∧∀ j,j≠h.p→((W.drewN n).setCell ⟨h.p,2,none⟩ (.bool b)).heap[j]?=W.heap[j]?:=by
  have e:∀ j,j≠h.p→((W.drewN n).setCell ⟨h.p,2,none⟩ (.bool b)).heap[j]?=W.heap[j]?:=fun j hj=>Below.heap_setCell (W.drewN n) _ _ _ hj
  have g1:=Row.p_ne hs.stk hs.blk
  have g2:=Row.p_ne hs.loc hs.blk
  refine ⟨⟨?_,Kd.R_step hs.stk (fun k hk _=>e k (g1 k hk)),Kd.R_step hs.loc (fun k hk _=>e k (g2 k hk)),hs.ne,hs.lo⟩,fun B hB=>(aZb (Below.refl B W) n).setCell hB _,e⟩
  have hb:(W.drewN n).heap[h.p]?=some (.cells #[h.vs,h.vl,.bool s.joined] 168 (0,0)):=hs.blk
  exact eZW hb 2 (.bool b) rfl
theorem IsSt.zero {W:World} {base:Nat} {h:HS} {s:St} (hs:IsSt W base h s) {g n c:Nat} (e:h.vl=.slice (some ⟨g,0,none⟩) n c) (nq i:Nat) (z:Int) :
    IsSt ((W.drewN nq).setCell ⟨g,i,none⟩ (.int .i64 z)) base h ⟨s.stk,s.loc.set i z,s.joined⟩∧Below base W ((W.drewN nq).setCell ⟨g,i,none⟩ (.int .i64 z))∧∀ j,j≠g→((W.drewN nq).setCell ⟨g,i,none⟩ (.int .i64 z)).heap[j]?=W.heap[j]?:=by
  have f:∀ j,j≠g→((W.drewN nq).setCell ⟨g,i,none⟩ (.int .i64 z)).heap[j]?=W.heap[j]?:=fun j hj=>Below.heap_setCell (W.drewN nq) _ _ _ hj
  have ho:h.vl.ownBlock=some g:=by rw [e];rfl
  have g1:=Row.p_ne hs.loc hs.blk g ho
  have hR:=hs.loc
  rw [e] at hR
  have hp:=(Kd.R_putg (Kd.R_drewN hR nq) (i:Int) z).1
  rw [Int.toNat_natCast] at hp
  refine ⟨⟨(f _ (fun e2=>g1 e2.symm)).trans hs.blk,Kd.R_step hs.stk (fun k hk _=>f k (fun e2=>hs.ne k hk (e2▸ho))),by rw [e];exact hp,hs.ne,hs.lo⟩,(aZb (Below.refl base W) nq).setCell (Row.lo hs.loc ho).1 _,f⟩
theorem lead_old (k:Wk) (W:World) (tv:Value) (most:Int) (base:Nat) (h:k.blk W tv most) (M:List (Int × HS)) (hM:MapAt W k.m M) (tgt:Int) (x:HS) (hl:look M tgt=some x) (now:HS) (s o:St) (hs:IsSt W base now s) (ho:IsSt W base x o) (hne:∀ j,x.own j→¬now.own j)
 (l1:s.stk.length≤4096) (l2:o.stk.length≤4096) (l3:s.loc.length=o.loc.length) (l4:o.loc.length≤4096) :
 Calls Try.prog 93 #[.pointer (some ⟨k.g,0,none⟩),.int .i64 tgt,.pointer (some ⟨now.p,0,none⟩)] W fun e w'=>e=.returned (.tuple #[]) ∧
  IsSt w' base x ⟨o.stk,aZH o.loc s.loc,o.joined || !decide (o.stk=s.stk)⟩∧Below base W w'∧∀ j,j<W.heap.size→¬x.own j→w'.heap[j]?=W.heap[j]?:=by
 obtain ⟨-,-,-,-,-,-,-,-,q8,-⟩:=Wk.cells h
 obtain ⟨n0,n1,-,-,-⟩:=hs.cells
 obtain ⟨o0,o1,o2,-,z2⟩:=ho.cells
 have hk:=cZs hM tgt
 rw [hl] at hk
 simp only [Option.map_some,Option.isSome_some] at hk
 obtain ⟨A1,c1,e1,k1,r1⟩:=Kd.R_reads hs.stk
 obtain ⟨A2,c2,e2,k2,r2⟩:=Kd.R_reads ho.stk
 rw [e1] at n0
 rw [e2] at o0
 go_enter Try.func93,Try.ntmps93
 go_wp2_with (fail)
 have r1':=hs.stk
 have r2':=ho.stk
 rw [e1] at r1'
 rw [e2] at r2'
 have p1:=Row.p_ne r1' ho.blk
 have p2:=Row.p_ne r2' ho.blk
 have hpq:now.p≠x.p:=fun e=>hne x.p (.inl rfl) (.inl e.symm)
 generalize hd:decide (o.stk=s.stk)=d
 go_cut [] (fun wx=>∃ n,wx=(W.drewN n).setCell ⟨x.p,2,none⟩ (.bool (o.joined || !d)))
 case first =>
  have hE:=equalS (base:=base) k2 r2 k1 r1 l2
  rw [hd] at hE
  clear hd
  cases hj:o.joined with
  | true =>
   rw [hj] at o2
   go_region
   all_goals (go_wp2_with (fail);go_meet;exact ⟨1,by rw [hj];rfl⟩)
  | false =>
   rw [hj] at o2
   go_region_with ((go_at_call 105;(with_reducible refine hE.mono ?_);rintro e w1 ⟨rfl,⟨n,rfl⟩⟩))
   all_goals (go_wp2_with (fail);go_meet;exact ⟨1+n,by rw [hj];rfl⟩)
 case rest =>
  obtain ⟨n,rfl⟩:=hcut
  obtain ⟨hx,hB,hf⟩:=ho.join n (o.joined || !d)
  have hB:=hB base ho.lo
  have hnow:IsSt ((W.drewN n).setCell ⟨x.p,2,none⟩ (.bool (o.joined || !d))) base now s:=hs.keep (fun j hj _=>hf j (fun e=>hne x.p (.inl rfl) (e▸hj)))
  generalize (W.drewN n).setCell ⟨x.p,2,none⟩ (.bool (o.joined || !d))=V at hx hB hf hnow ⊢
  have HD:=hid_ hd
  generalize hJ:(o.joined || !d)=J at hx ⊢
  have HJ:=hid_ hJ
  clear hJ
  clear n0 n1 o0 o1 o2 z2 hk e1 k1 r1 e2 k2 r2 r1' r2' p1 p2 q8 hs ho hd
  obtain ⟨A3,c3,e3,k3,r3⟩:=Kd.R_reads hnow.loc
  obtain ⟨A4,c4,e4⟩:=Kd.R_slice hx.loc
  obtain ⟨-,n1,-,-,-⟩:=hnow.cells
  obtain ⟨-,o1,-,-,-⟩:=hx.cells
  rw [e3] at n1
  rw [e4] at o1
  go_wp2_with (fail)
  go_loopw [61] (fun i wr=>∃ j:Nat,j≤o.loc.length∧i=.int .i64 j∧IsSt wr base x ⟨o.stk,cZi o.loc s.loc j,J⟩∧Below base V wr∧∀ q,q<V.heap.size→¬x.own q→wr.heap[q]?=V.heap[q]?) (fun i _=>o.loc.length - (intOf i).toNat)
  case atStart=>exact ⟨0,by omega,rfl,by rw [gZ2];exact hx,Below.refl _ _,fun _ _ _=>rfl⟩
  case round =>
   obtain ⟨j,hj,rfl,hX,hBw,hfw⟩:=hrel
   have hN:=hnow.keep (fun q hq hlt=>hfw q hlt (fun hx=>hne q hx hq))
   obtain ⟨-,n1,-,-,-⟩:=hN.cells
   obtain ⟨-,o1,-,-,-⟩:=hX.cells
   rw [e3] at n1
   rw [e4] at o1
   by_cases hlt:j<o.loc.length
   ·
    obtain ⟨inner,how⟩:=Kd.R_own hX.loc
    have hml:=fZR o.loc s.loc l3.symm j hj
    rcases how.2 with ⟨h1,h2⟩ | ⟨g,cap,cur,hv,hg,-⟩
    ·
     dsimp only at h2
     exact absurd h2 (by omega)
    ·
     rw [e4] at hv
     simp only [Value.slice.injEq] at hv
     obtain ⟨rfl,-,rfl⟩:=hv
     have hR:=hX.loc
     rw [e4] at hR
     dsimp only at hR
     obtain ⟨ca,fa⟩:=Kd.R_celln (0:Int) hR (j:Int) (by omega) (by omega)
     have hrN:=hN.loc
     rw [e3] at hrN
     obtain ⟨A5,c5,e5,-,r5⟩:=Kd.R_reads hrN
     cases e5
     obtain ⟨ad,rfl,cb⟩:=Kd.at_int r5 (j:Int) (by omega) (by omega)
     rw [Int.toNat_natCast] at ca fa cb
     have ha:rdOf 0 (cZi o.loc s.loc j) (j:Int)=o.loc.getD j 0:=by
      rw [←fZn o.loc s.loc l3.symm j hlt];rfl
     have hb:rd s.loc (j:Int)=s.loc.getD j 0:=rfl
     rw [ha] at ca
     rw [hb] at cb
     clear ha hb hR hrN r5 inner how hml
     have i0:(0:Int)≤(j:Int):=by omega
     have i1:(j:Int)<(o.loc.length:Int):=by omega
     have i2:(j:Int)<(s.loc.length:Int):=by omega
     have HL:=hid_ l3
     clear l3
     by_cases he:o.loc.getD j 0=s.loc.getD j 0
     ·
      have hm:=gZ3 o.loc s.loc HL.out.symm j hlt he
      have HM:=hid_ hm;clear hm
      rw [he] at ca
      clear he
      generalize s.loc.getD j 0=v at ca cb
      go_wp2_with (fail)
      go_quiet (fail)
      go_wp2_with (fail)
      go_roundw
      case rel=>exact ⟨j+1,by omega,by go_num,by rw [HM.out];exact hX.keep (fun _ _ _=>rfl),aZb hBw nq,hfw⟩
      case measure=>simp [intOf];omega
     ·
      have hm:=eZG o.loc s.loc HL.out.symm j hlt
      rw [if_neg he] at hm
      have HM:=hid_ hm;clear hm
      have dne:(o.loc.getD j 0 == s.loc.getD j 0)=false:=by rw [beq_eq_false_iff_ne];exact he
      have dne2:(o.loc.getD j 0 != s.loc.getD j 0)=true:=by rw [bne,dne];rfl
      clear he
      generalize o.loc.getD j 0=v1 at ca dne dne2
      generalize s.loc.getD j 0=v2 at cb dne dne2
      go_wp2_with (fail)
      go_quiet (fail)
      go_wp2_with (fail)
      obtain ⟨z1,z2,z3⟩:=hX.zero e4 nq j 0
      have hxg:x.own g:=.inr (.inr (by rw [e4];rfl))
      go_roundw
      case rel=>exact ⟨j+1,by omega,by go_num,by rw [HM.out];exact z1,hBw.trans z2,fun q hq hx=>(z3 q (fun e=>hx (e▸hxg))).trans (hfw q hq hx)⟩
      case measure=>simp [intOf];omega
   ·
    have hje:j=o.loc.length:=by omega
    rw [hje,hZ7 o.loc s.loc l3.symm] at hX
    have hge:¬(j:Int)<(o.loc.length:Int):=by omega
    clear hlt hje
    go_wp2_with (fail)
    go_end0
    refine ⟨rfl,?_,hB.trans hBw,fun q hq hxq=>(hfw q (Nat.lt_of_lt_of_le hq hB.size) hxq).trans (hf q (fun e=>hxq (.inl e)))⟩
    rw [←HJ.out,←HD.out] at hX
    exact hX
theorem bneq {b:ByteArray} {l:List UInt8} (h:b≠⟨l.toArray⟩):(b.toList == l)=false:=by
  rw [beq_eq_false_iff_ne,ByteArray.toList_eq]
  exact fun e=>h (Go.WideShapes.bytes_inj (by simpa using e))
theorem bnil {b:ByteArray} (h:b≠⟨#[]⟩):b.toList.isEmpty=false:=by
  have h2:=bneq (l:=[]) h
  cases hb:b.toList with
  | nil=>rw [hb] at h2;cases h2
  | cons x l=>rfl
theorem inf73:∃ i,Try.prog.info? 73=some i∧i.size=1:=Option.map_eq_some_iff.1 (show (Try.prog.info? 73).map (fun i=>i.size)=some 1 by kernel_rfl)
theorem dZf {A:Option Addr} {c:Nat} {l:List Int} (hc:l.length≤c) (f:Nat) (hf:f≤l.length) (w:World):(Instr.slice 51 (.slice A l.length c) none (some (.int .i64 f)) none).run Try.prog w=.ok (.slice A f c) w:=by
  obtain ⟨i,h1,h2⟩:=inf73
  have h:=(eZ6 (P:=Try.prog) (k:=.i64) 51 73 Try.underlying51 h1 h2 A c l (f:Int) (by omega) (by omega) hc).1 w
  rw [Int.toNat_natCast,show (l.take f).length=f by rw [List.length_take];omega] at h
  exact h
theorem Row.take {W:World} {base:Nat} {ok:Nat→Prop} {A:Option Addr} {n c f:Nat} {l:List Int} (h:Row W base ok (.slice A n c) l) (hf:f≤l.length):Row W base (fun k=>(Value.slice A f c).ownBlock=some k) (.slice A f c) (l.take f):=by
 have ho:=Kd.own_of_R h
 have hlen:(l.take f).length=f:=by rw [List.length_take];omega
 rcases ho.2 with ⟨h1,h2⟩ | ⟨g,cap,cur,hv,hg,hb,hn,hc,hs,ht⟩
 ·
  simp only [Value.slice.injEq] at h1
  obtain ⟨rfl,rfl,rfl⟩:=h1
  obtain rfl:f=0:=by omega
  obtain rfl:l=[]:=List.length_eq_zero_iff.1 h2
  exact Kd.R_nil _ _ _ _ _
 ·
  simp only [Value.slice.injEq] at hv
  obtain ⟨rfl,rfl,rfl⟩:=hv
  refine Kd.R_of_own (enc:=Value.int .i64) (h1:=fun _=>rfl) ?_ (fun k hk=>hk)
  rw [hlen]
  refine ⟨by simp [encs];omega,.inr ⟨g,c,cur,rfl,hg,hb,by omega,hc,hs,?_⟩⟩
  have:=congrArg (List.take f) ht
  rw [List.take_take,show min f (l.length*1)=f by omega] at this
  rw [Nat.mul_one,this]
  simp [encs,List.map_take]
theorem IsSt.take {W:World} {base:Nat} {h:HS} {s:St} (hs:IsSt W base h s) {A:Option Addr} {n c f:Nat} (e:h.vs=.slice A n c) (hf:f≤s.stk.length) :
 IsSt (W.setCell ⟨h.p,0,none⟩ (.slice A f c)) base ⟨h.p,.slice A f c,h.vl⟩ ⟨s.stk.take f,s.loc,s.joined⟩∧Below base W (W.setCell ⟨h.p,0,none⟩ (.slice A f c))∧(∀ j,j≠h.p→(W.setCell ⟨h.p,0,none⟩ (.slice A f c)).heap[j]?=W.heap[j]?) ∧
  ∀ j,HS.own ⟨h.p,.slice A f c,h.vl⟩ j→h.own j:=by
 have fr:∀ j,j≠h.p→(W.setCell ⟨h.p,0,none⟩ (.slice A f c)).heap[j]?=W.heap[j]?:=fun j hj=>Below.heap_setCell W _ _ _ hj
 have g1:=Row.p_ne hs.stk hs.blk
 have g2:=Row.p_ne hs.loc hs.blk
 have hR:=hs.stk
 rw [e] at hR g1
 have eo:∀ k,(Value.slice A f c).ownBlock=some k↔h.vs.ownBlock=some k:=fun k=>by rw [e];cases A <;> simp [Value.ownBlock]
 refine ⟨⟨eZW hs.blk 0 _ rfl,Kd.R_step (Row.take hR hf) (fun k hk _=>fr k (g1 k (by rw [←e];exact (eo k).1 hk))),Kd.R_step hs.loc (fun k hk _=>fr k (g2 k hk)),fun k hk=>hs.ne k ((eo k).1 hk),hs.lo⟩,(Below.refl _ _).setCell hs.lo _,fr,?_⟩
 rintro j (h1|h1|h1)
 · exact .inl h1
 · exact .inr (.inl ((eo j).1 h1))
 · exact .inr (.inr h1)
theorem IsSt.push {W w1:World} {base:Nat} {h:HS} {s:St} (hs:IsSt W base h s) {v1:Value} {l:List Int} {ok:Nat→Prop} (hR:Row w1 base ok v1 l) (hg:W.grownBy w1 h.vs.ownBlock) (hv:v1.ownBlock=h.vs.ownBlock∨∃ b,v1.ownBlock=some b∧W.heap.size≤b) (nq:Nat) :
 IsSt ((w1.drewN nq).setCell ⟨h.p,0,none⟩ v1) base ⟨h.p,v1,h.vl⟩ ⟨l,s.loc,s.joined⟩∧Below base W ((w1.drewN nq).setCell ⟨h.p,0,none⟩ v1)∧(∀ j,j<W.heap.size→¬h.own j→((w1.drewN nq).setCell ⟨h.p,0,none⟩ v1).heap[j]?=W.heap[j]?) ∧
  ∀ j,HS.own ⟨h.p,v1,h.vl⟩ j→h.own j∨W.heap.size≤j:=by
 have fr:∀ j,j≠h.p→((w1.drewN nq).setCell ⟨h.p,0,none⟩ v1).heap[j]?=w1.heap[j]?:=fun j hj=>Below.heap_setCell (w1.drewN nq) _ _ _ hj
 have hp:=aZd hs.blk
 have p1:=Row.p_ne hs.stk hs.blk
 have p2:=Row.p_ne hs.loc hs.blk
 have l1:∀ k,h.vs.ownBlock=some k→base≤k∧k<W.heap.size:=fun k hk=>Row.lo hs.stk hk
 have l2:∀ k,h.vl.ownBlock=some k→base≤k∧k<W.heap.size:=fun k hk=>Row.lo hs.loc hk
 have hb1:w1.heap[h.p]?=some (.cells #[h.vs,h.vl,.bool s.joined] 168 (0,0)):=(hg.block h.p hp (fun e=>p1 h.p e.symm rfl)).trans hs.blk
 have hbn:(w1.drewN nq).heap[h.p]?=some (.cells #[h.vs,h.vl,.bool s.joined] 168 (0,0)):=hb1
 have hvp:∀ k,v1.ownBlock=some k→k≠h.p:=Row.p_ne hR hb1
 have hL:=Kd.R_grown hs.loc hg (fun k hk e=>hs.ne k e.symm hk)
 have hbw : Below base W w1 := ⟨hg.os, hg.tape, hg.output, hg.size, fun i hi => by
  by_cases h1:i<W.heap.size
  · exact hg.block i h1 (fun e=>by have:=(l1 i e.symm).1;omega)
  · have:=hs.lo;omega⟩
 refine ⟨⟨eZW hbn 0 _ rfl,Kd.R_step (Row.own hR) (fun k hk _=>fr k (hvp k hk)),Kd.R_step hL (fun k hk _=>fr k (p2 k hk)),fun k hk hl=>?_,hs.lo⟩,(aZb hbw nq).setCell hs.lo _,fun j hj hn=>(fr j (fun e=>hn (.inl e))).trans (hg.block j hj (fun e=>hn (.inr (.inl e.symm)))),?_⟩
 ·
  rcases hv with e | ⟨b,e,hbb⟩
  · exact hs.ne k (e▸hk) hl
  ·
   rw [e] at hk
   have:=Option.some.inj hk
   have:=(l2 k hl).2
   omega
 ·
  rintro j (h1|h1|h1)
  · exact .inl (.inl h1)
  ·
   rcases hv with e | ⟨b,e,hbb⟩
   · exact .inl (.inr (.inl (e▸h1)))
   ·
    have h1':v1.ownBlock=some j:=h1
    rw [e] at h1'
    have:=Option.some.inj h1'
    exact .inr (by omega)
  · exact .inl (.inr (.inr h1))
def aZA (stk:List Int) (frm:Nat) (t:ByteArray) (first:Int):Nat→Nat→Bool
  | 0,_=>true
  | d+1,j=>if fitF (stk.getD (frm+j) 0) (bt t j) first=false then false else aZA stk frm t first d (j+1)
def aZM (stk:List Int) (frm n:Nat):Int:=if 0<n then stk.getD frm 0 else 0
def putF (puts:ByteArray) (x:S66) (stk loc:List Int) (first:Int):Except Int (List Int × List Int) :=
  if puts=⟨#[]⟩ then .ok (stk,if x.f0=31 then loc.set x.f1.toNat first else loc)
  else if puts=⟨#[61]⟩ then .ok (stk++[first],loc)
  else if puts=⟨#[76]⟩ then (if loc.getD x.f1.toNat 0=0 then .error 217 else .ok (stk++[loc.getD x.f1.toNat 0],loc))
  else .ok (stk++[cZb (bt puts 0) x.f1],loc)
def aZ2 (dep:Int) (r:S165) (x:S66) (s:St):Except Int St :=
  if s.stk.length<r.f1.size then .error 214
  else if aZA s.stk (s.stk.length - r.f1.size) r.f1 (aZM s.stk (s.stk.length - r.f1.size) r.f1.size) r.f1.size 0=false then .error 215
  else match putF r.f2 x (s.stk.take (s.stk.length - r.f1.size)) s.loc (aZM s.stk (s.stk.length - r.f1.size) r.f1.size) with
    | .error e=>.error e
    | .ok (stk,loc)=>if dep<stk.length then .error 216 else if x.f0=36∧0<stk.length then .error 219 else .ok ⟨stk,loc,s.joined⟩
theorem gZQ (dep:Int) (r:S165) (x:S66) (s:St) (h:s.stk.length<r.f1.size):aZ2 dep r x s=.error 214:=if_pos h
theorem bZU (dep:Int) (r:S165) (x:S66) (s:St) (f:Nat) (hf:s.stk.length=f+r.f1.size) (h:aZA s.stk f r.f1 (aZM s.stk f r.f1.size) r.f1.size 0=false):aZ2 dep r x s=.error 215:=by
  unfold aZ2
  rw [if_neg (by omega),show s.stk.length - r.f1.size=f by omega,if_pos h]
def endF (dep:Int) (x:S66) (j:Bool) (r:Except Int (List Int × List Int)):Except Int St :=
  match r with
  | .error e=>.error e
  | .ok (stk,loc)=>if dep<stk.length then .error 216 else if x.f0=36∧0<stk.length then .error 219 else .ok ⟨stk,loc,j⟩
theorem cZw (dep:Int) (r:S165) (x:S66) (s:St) (f:Nat) (hf:s.stk.length=f+r.f1.size) (h:aZA s.stk f r.f1 (aZM s.stk f r.f1.size) r.f1.size 0=true) :
    aZ2 dep r x s=endF dep x s.joined (putF r.f2 x (s.stk.take f) s.loc (aZM s.stk f r.f1.size)):=by
  unfold aZ2
  rw [if_neg (by omega),show s.stk.length - r.f1.size=f by omega,if_neg (by rw [h];decide)]
  rfl
theorem cZH {dep:Int} {x:S66} {j:Bool} {stk loc:List Int} (h:dep<stk.length):endF dep x j (.ok (stk,loc))=.error 216:=if_pos h
theorem cZG {dep:Int} {x:S66} {j:Bool} {stk loc:List Int} (h:¬dep<stk.length) (h2:x.f0=36) (h3:0<stk.length):endF dep x j (.ok (stk,loc))=.error 219:=by
  unfold endF;dsimp only;rw [if_neg h,if_pos ⟨h2,h3⟩]
theorem dZ6 {dep:Int} {x:S66} {j:Bool} {stk loc:List Int} (h:¬dep<stk.length) (h2:¬(x.f0=36∧0<stk.length)):endF dep x j (.ok (stk,loc))=.ok ⟨stk,loc,j⟩:=by
  unfold endF;dsimp only;rw [if_neg h,if_neg h2]
abbrev told2:Kd (List Int):=Kd.slice 73 (Kd.int .i64)
abbrev Ent:=Int × HS × St
def hsOf (x:Ent):Int × HS:=(x.1,x.2.1)
def stOf (x:Ent):Int × St:=(x.1,x.2.2)
theorem dZL {α β:Type} (f:α→β) (k:Int):∀ L:List (Int × α),look (L.map fun x=>(x.1,f x.2)) k=(look L k).map f
  | []=>rfl
  | (j,x) :: r=>by
    simp only [List.map_cons,look]
    split
    · rfl
    · exact dZL f k r
theorem fZY {α β:Type} (f:α→β) (k:Int):∀ L:List (Int × α),del (L.map fun x=>(x.1,f x.2)) k=(del L k).map fun x=>(x.1,f x.2)
  | []=>rfl
  | (j,x) :: r=>by
    simp only [List.map_cons,del]
    split
    · rfl
    · rw [fZY f k r];rfl
def upd {α:Type}:List (Int × α)→Int→α→List (Int × α)
  | [],_,_=>[]
  | (j,h) :: r,k,y=>if j=k then (j,y) :: r else (j,h) :: upd r k y
theorem gZO {α β:Type} (f:α→β) (k:Int) (y:α):∀ L:List (Int × α),upd (L.map fun x=>(x.1,f x.2)) k (f y)=(upd L k y).map fun x=>(x.1,f x.2)
  | []=>rfl
  | (j,x) :: r=>by
    simp only [List.map_cons,upd]
    split
    · rfl
    · rw [gZO f k y r];rfl
theorem hZq {α β:Type} (f:α→β) (k:Int) (y:α):∀ (L:List (Int × α)) (x:α),look L k=some x→f y=f x→(upd L k y).map (fun x=>(x.1,f x.2))=L.map fun x=>(x.1,f x.2)
  | [],_,h,_=>by cases h
  | (j,z) :: r,x,h,e=>by
    simp only [upd,look] at h ⊢
    split
    · rename_i hj
      rw [if_pos hj] at h
      obtain rfl:=Option.some.inj h
      simp [e]
    · rename_i hj
      rw [if_neg hj] at h
      simp [hZq f k y r x h e]
theorem bZq {α:Type} (k:Int):∀ (L:List (Int × α)) (x:α),look L k=some x→(k,x)∈L
  | [],_,h=>by cases h
  | (j,z) :: r,x,h=>by
    simp only [look] at h
    split at h
    · rename_i hj
      obtain rfl:=Option.some.inj h
      subst hj
      exact List.mem_cons_self
    · exact List.mem_cons_of_mem _ (bZq k r x h)
theorem hZy {α:Type} (k:Int) (y:α):∀ (L:List (Int × α)) (x:α),look L k=some x→look (upd L k y) k=some y
  | [],_,h=>by cases h
  | (j,z) :: r,x,h=>by
    by_cases hj:j=k
    · simp [upd,look,hj]
    · simp only [look,if_neg hj] at h
      simp only [upd,if_neg hj,look,hZy k y r x h]
theorem dZ3 {α:Type} (k:Int) (y:α):∀ (L:List (Int × α)) (z:Int × α),z∈upd L k y→z∈L∨z=(k,y)
  | [],_,h=>by cases h
  | (j,x) :: r,z,h=>by
    simp only [upd] at h
    split at h
    · rename_i hj
      rcases List.mem_cons.1 h with h|h
      · subst hj;exact .inr h
      · exact .inl (List.mem_cons_of_mem _ h)
    · rcases List.mem_cons.1 h with h|h
      · exact .inl (h▸List.mem_cons_self)
      · exact (dZ3 k y r z h).imp (List.mem_cons_of_mem _) id
theorem hZx {α:Type} (k:Int) (y:α):∀ (L:List (Int × α)) (z:Int × α),z∈upd L k y→z∈del L k∨z=(k,y)
  | [],_,h=>by cases h
  | (j,x) :: r,z,h=>by
    simp only [upd] at h
    simp only [del]
    split at h
    · rename_i hj
      rw [if_pos hj]
      rcases List.mem_cons.1 h with h|h
      · subst hj;exact .inr h
      · exact .inl h
    · rename_i hj
      rw [if_neg hj]
      rcases List.mem_cons.1 h with h|h
      · exact .inl (h▸List.mem_cons_self)
      · exact (hZx k y r z h).imp (List.mem_cons_of_mem _) id
theorem cZ8 {α:Type} (k:Int):∀ (L:List (Int × α)) (z:Int × α),z∈del L k→z∈L
  | [],_,h=>by cases h
  | (j,x) :: r,z,h=>by
    simp only [del] at h
    split at h
    · exact List.mem_cons_of_mem _ h
    · rcases List.mem_cons.1 h with h|h
      · exact h▸List.mem_cons_self
      · exact List.mem_cons_of_mem _ (cZ8 k r z h)
theorem hZH {α:Type} (k:Int):∀ L:List (Int × α),look L k=none→del L k=L
  | [],_=>rfl
  | (j,x) :: r,h=>by
    simp only [look] at h
    split at h
    · cases h
    · rename_i hj
      simp only [del,if_neg hj,hZH k r h]
theorem del_upd {α:Type} (k:Int) (y:α):∀ L:List (Int × α),del (upd L k y) k=del L k
  | []=>rfl
  | (j,x) :: r=>by
    by_cases hj:j=k
    · simp [upd,del,hj]
    · simp [upd,del,hj,del_upd k y r]
theorem eZe {α:Type} (R:(Int × α)→(Int × α)→Prop) (k:Int) (y:α):∀ (L:List (Int × α)) (x:α),look L k=some x→L.Pairwise R→(∀ z,R z (k,x)→R z (k,y))→(∀ z,R (k,x) z→R (k,y) z)→(upd L k y).Pairwise R
  | [],_,h,_,_,_=>by cases h
  | (j,z) :: r,x,h,hp,h1,h2=>by
    simp only [look] at h
    obtain ⟨hp1,hp2⟩:=List.pairwise_cons.1 hp
    simp only [upd]
    split at h
    · rename_i hj
      obtain rfl:=Option.some.inj h
      subst hj
      rw [if_pos rfl]
      exact List.pairwise_cons.2 ⟨fun a ha=>h2 a (hp1 a ha),hp2⟩
    · rename_i hj
      rw [if_neg hj]
      refine List.pairwise_cons.2 ⟨fun a ha=>?_,eZe R k y r x h hp2 h1 h2⟩
      rcases dZ3 k y r a ha with h3|rfl
      · exact hp1 a h3
      · exact h1 _ (hp1 _ (bZq k r x h))
theorem eZf {α:Type} (R:(Int × α)→(Int × α)→Prop) (k:Int):∀ (L:List (Int × α)),L.Pairwise R→(del L k).Pairwise R
  | [],h=>h
  | (j,z) :: r,hp=>by
    obtain ⟨hp1,hp2⟩:=List.pairwise_cons.1 hp
    simp only [del]
    split
    · exact hp2
    · exact List.pairwise_cons.2 ⟨fun a ha=>hp1 a (cZ8 k r a ha),eZf R k r hp2⟩
theorem dZ4 {α:Type} (R:(Int × α)→(Int × α)→Prop) (hs:∀ a b,R a b→R b a) (k:Int):∀ (L:List (Int × α)) (x:α),look L k=some x→L.Pairwise R→∀ z∈del L k,R z (k,x)
  | [],_,h,_=>by cases h
  | (j,z) :: r,x,h,hp=>by
    simp only [look] at h
    obtain ⟨hp1,hp2⟩:=List.pairwise_cons.1 hp
    intro a ha
    simp only [del] at ha
    split at h
    · rename_i hj
      obtain rfl:=Option.some.inj h
      subst hj
      rw [if_pos rfl] at ha
      exact hs _ _ (hp1 a ha)
    · rename_i hj
      rw [if_neg hj] at ha
      rcases List.mem_cons.1 ha with rfl|ha
      · exact hp1 _ (bZq k r x h)
      · exact dZ4 R hs k r x h hp2 a ha
def Apart (a b:HS):Prop:=∀ j,a.own j→¬b.own j
theorem Apart.symm {a b:HS} (h:Apart a b):Apart b a:=fun j hb ha=>h j ha hb
structure Sys (w0 W:World) (k:Wk) (n:HS) (s:St) (L:List Ent) (told:List (List Int)) (tv:Value) (most:Int):Prop where
  below:Below w0.heap.size w0 W
  blk:k.blk W tv most
  lg:w0.heap.size≤k.g
  lm:w0.heap.size≤k.m
  map:MapAt W k.m (L.map hsOf)
  sts:∀ x∈L,IsSt W w0.heap.size x.2.1 x.2.2
  now:IsSt W w0.heap.size n s
  sep1:∀ x∈L,Apart x.2.1 n
  sep2:L.Pairwise (fun a b=>Apart a.2.1 b.2.1)
  told:Kd.S told2 51 W w0.heap.size (fun j=>¬n.own j∧∀ x∈L,¬x.2.1.own j) tv told
  rows:k165.R 165 W w0.heap.size (fun _=>True) (.slice k.ar 37 k.cr) rowsL
  code:Kd.C k66 w0 k.a4 k.C.length k.C
  len:s.stk.length≤128∧(s.loc.length:Int)=k.loc∧∀ x∈L,x.2.2.stk.length≤128∧(x.2.2.loc.length:Int)=k.loc
theorem cZA {W:World} {base:Nat} {h:HS} {s:St} (hs:IsSt W base h s) {m:Nat} (hm:IsMap W m):¬h.own m:=by
 rintro (e|e|e)
 ·
  obtain ⟨es,clk,hb,-⟩:=hm
  rw [e,hs.blk] at hb
  cases hb
 · exact Row.map_ne hs.stk hm e
 · exact Row.map_ne hs.loc hm e
theorem own_ne_types {W:World} {base:Nat} {h:HS} {s:St} (hs:IsSt W base h s) {a:Nat} {ca:Array Value} {t:TypeId} (ha:W.heap[a]?=some (.cells ca t (0,0))) (h1:t≠168) (h2:t≠73):¬h.own a:=by
 have row:∀ {ok:Nat→Prop} {v:Value} {l:List Int},Row W base ok v l→v.ownBlock≠some a:=fun {ok v l} hr e=>by
  obtain ⟨inner,ho⟩:=Kd.R_own hr
  obtain ⟨cells,hc⟩:=bZd ho a e
  rw [ha] at hc
  injection hc with hc
  injection hc with _ hc
  exact h2 hc
 rintro (e|e|e)
 ·
  rw [e,hs.blk] at ha
  injection ha with ha
  injection ha with _ ha
  exact h1 ha.symm
 · exact row hs.stk e
 · exact row hs.loc e
theorem own_lt {W:World} {base:Nat} {h:HS} {s:St} (hs:IsSt W base h s) {j:Nat} (hj:h.own j):base≤j∧j<W.heap.size:=by
 rcases hj with e|e|e
 · exact e▸⟨hs.lo,aZd hs.blk⟩
 · exact Row.lo hs.stk e
 · exact Row.lo hs.loc e
theorem cZx {W W2:World} {base:Nat} {v:Value} {l:List S165} (h:k165.R 165 W base (fun _=>True) v l) (hm:∀ (j:Nat) (cs:Array Value),W.heap[j]?=some (Obj.cells cs 165 (0,0))→W2.heap[j]?=W.heap[j]?):k165.R 165 W2 base (fun _=>True) v l :=
  Kd.R_mono (Kd.R_move (Kd.R_bound h) (fun k hk => by
    obtain ⟨-,-,-,q,hq,cs,hc⟩:=hk
    have:q=165:=by simpa [k165,Kd.iso,Kd.pair,Kd.string,Kd.scalar] using hq
    subst this
    exact hm k cs hc)) (fun _ _=>trivial)
section
variable {w0 W W2:World} {k:Wk} {n:HS} {s:St} {L:List Ent} {told:List (List Int)} {tv:Value} {most:Int}
theorem Sys.grow (h:Sys w0 W k n s L told tv most) (hb:Below W.heap.size W W2):Sys w0 W2 k n s L told tv most :=
  ⟨h.below.trans (hb.mono h.below.size),(hb.block _ (aZd h.blk)).trans h.blk,h.lg,h.lm,h.map.of_block (hb.block _ h.map.lt),fun x hx=>(h.sts x hx).below hb,h.now.below hb,h.sep1,h.sep2,Kd.S_below h.told hb,Kd.R_below h.rows hb,h.code,h.len⟩
theorem Sys.step (h:Sys w0 W k n s L told tv most) (hB:Below w0.heap.size W W2) (hf:∀ j,j<W.heap.size→¬n.own j→W2.heap[j]?=W.heap[j]?) {n2:HS} {s2:St} (hn:IsSt W2 w0.heap.size n2 s2) (ho:∀ j,n2.own j→n.own j∨W.heap.size≤j) (hl:s2.stk.length≤128∧(s2.loc.length:Int)=k.loc):Sys w0 W2 k n2 s2 L told tv most:=by
 have hmp:=h.map.isMap
 refine ⟨h.below.trans hB,(hf _ (aZd h.blk) (own_ne_types h.now h.blk (by decide) (by decide))).trans h.blk,h.lg,h.lm,h.map.of_block (hf _ h.map.lt (cZA h.now hmp)),fun x hx=>(h.sts x hx).keep (fun j hj hlt=>hf j hlt (h.sep1 x hx j hj)),hn,fun x hx j hj hj2=>?_,h.sep2,?_,cZx h.rows (fun j cs hc=>hf j (aZd hc) (own_ne_types h.now hc (by decide) (by decide))),h.code,⟨hl.1,hl.2,h.len.2.2⟩⟩
 ·
  rcases ho j hj2 with h1|h1
  · exact h.sep1 x hx j hj h1
  ·
   have:=(own_lt (h.sts x hx) hj).2
   omega
 · exact Kd.S_mono (Kd.S_step (Kd.S_bound h.told) (fun j hj hlt=>hf j hlt hj.1.1)) (fun j hj=>⟨fun h2=>(ho j h2).elim hj.1.1 (fun h3=>by have:=hj.2.2.1;omega),hj.1.2⟩)
theorem Sys.lead_new (h:Sys w0 W k n s L told tv most) {t:Int} {x:HS} (hM:MapAt W2 k.m (L.map hsOf++[(t,x)])) (hx:IsSt W2 W.heap.size x ⟨s.stk,s.loc,false⟩) (hg:W.grownBy W2 (some k.m)) (ho:∀ j,x.own j→W.heap.size≤j):Sys w0 W2 k n s (L++[(t,x,⟨s.stk,s.loc,false⟩)]) told tv most:=by
 have hmp:=h.map.isMap
 have hf:∀ j,j<W.heap.size→j≠k.m→W2.heap[j]?=W.heap[j]?:=fun j hj hn=>hg.block j hj (fun e=>hn (Option.some.inj e))
 have far:∀ {n:HS} {s:St},IsSt W w0.heap.size n s→IsSt W2 w0.heap.size n s:=fun {n s} hs=>hs.keep (fun j hj hlt=>hf j hlt (fun e=>cZA hs hmp (e▸hj)))
 have hB:Below w0.heap.size W W2:=⟨hg.os,hg.tape,hg.output,hg.size,fun j hj=>hf j (Nat.lt_of_lt_of_le hj h.below.size) (fun e=>by have:=h.lm;omega)⟩
 have hx2:IsSt W2 w0.heap.size x ⟨s.stk,s.loc,false⟩:=⟨hx.blk,Kd.R_lower hx.stk h.below.size,Kd.R_lower hx.loc h.below.size,hx.ne,Nat.le_trans h.below.size hx.lo⟩
 have ap:∀ {n:HS} {s:St},IsSt W w0.heap.size n s→Apart x n:=fun {n s} hs j hj hj2=>by have:=ho j hj;have:=(own_lt hs hj2).2;omega
 have kb:∀ cs t,W.heap[k.m]?≠some (Obj.cells cs t (0,0)):=fun cs t e=>by
  obtain ⟨es,clk,hb,-⟩:=hmp
  rw [e] at hb
  cases hb
 refine ⟨h.below.trans hB,(hf _ (aZd h.blk) (fun e=>kb _ _ (by rw [←e];exact h.blk))).trans h.blk,h.lg,h.lm,by rw [List.map_append];exact hM,?_,far h.now,?_,?_,?_,cZx h.rows (fun j cs hc=>hf j (aZd hc) (fun e=>kb _ _ (e▸hc))),h.code,h.len.1,h.len.2.1,?_⟩
 ·
  intro y hy
  rcases List.mem_append.1 hy with hy|hy
  · exact far (h.sts y hy)
  · rw [List.mem_singleton.1 hy];exact hx2
 ·
  intro y hy
  rcases List.mem_append.1 hy with hy|hy
  · exact h.sep1 y hy
  · rw [List.mem_singleton.1 hy];exact ap h.now
 ·
  refine List.pairwise_append.2 ⟨h.sep2,by simp,fun a ha b hb=>?_⟩
  rw [List.mem_singleton.1 hb]
  exact (ap (h.sts a ha)).symm
 ·
  refine Kd.S_mono (Kd.S_step (Kd.S_bound h.told) (fun j hj hlt=>hf j hlt (fun e=>?_))) (fun j hj=>⟨hj.1.1,fun y hy=>?_⟩)
  ·
   obtain ⟨-,-,-,q,-,cs,hc⟩:=hj
   exact kb _ _ (e▸hc)
  ·
   rcases List.mem_append.1 hy with hy|hy
   · exact hj.1.2 y hy
   ·
    rw [List.mem_singleton.1 hy]
    intro h2
    have:=ho j h2
    have:=hj.2.2.1
    omega
 ·
  intro y hy
  rcases List.mem_append.1 hy with hy|hy
  · exact h.len.2.2 y hy
  · rw [List.mem_singleton.1 hy];exact ⟨h.len.1,h.len.2.1⟩
theorem Sys.lead_old (h:Sys w0 W k n s L told tv most) {t:Int} {x:HS} {o o2:St} (hl:look L t=some (x,o)) (hx:IsSt W2 w0.heap.size x o2) (hB:Below w0.heap.size W W2) (hf:∀ j,j<W.heap.size→¬x.own j→W2.heap[j]?=W.heap[j]?) (hle:o2.stk.length≤128∧(o2.loc.length:Int)=k.loc):Sys w0 W2 k n s (upd L t (x,o2)) told tv most:=by
 have hmp:=h.map.isMap
 have hmem:=bZq t L _ hl
 have hxs:=h.sts _ hmem
 have hmap:(upd L t (x,o2)).map hsOf=L.map hsOf:=hZq (fun y:HS × St=>y.1) t (x,o2) L (x,o) hl rfl
 refine ⟨h.below.trans hB,(hf _ (aZd h.blk) (own_ne_types hxs h.blk (by decide) (by decide))).trans h.blk,h.lg,h.lm,by rw [hmap];exact h.map.of_block (hf _ h.map.lt (cZA hxs hmp)),?_,h.now.keep (fun j hj hlt=>hf j hlt (fun hj2=>h.sep1 _ hmem j hj2 hj)),?_,?_,?_,cZx h.rows (fun j cs hc=>hf j (aZd hc) (own_ne_types hxs hc (by decide) (by decide))),h.code,h.len.1,h.len.2.1,?_⟩
 ·
  intro y hy
  rcases hZx t (x,o2) L y hy with hy|rfl
  ·
   have hap:Apart y.2.1 x:=dZ4 (fun a b:Ent=>Apart a.2.1 b.2.1) (fun _ _ h=>h.symm) t L (x,o) hl h.sep2 y hy
   exact (h.sts y (cZ8 t L y hy)).keep (fun j hj hlt=>hf j hlt (fun hj2=>hap j hj hj2))
  · exact hx
 ·
  intro y hy
  rcases dZ3 t (x,o2) L y hy with hy|rfl
  · exact h.sep1 y hy
  · exact (h.sep1 (t,x,o) hmem:Apart x n)
 · exact eZe (fun a b:Ent=>Apart a.2.1 b.2.1) t (x,o2) L (x,o) hl h.sep2 (fun z (h:Apart z.2.1 x)=>(h:Apart z.2.1 x)) (fun z (h:Apart x z.2.1)=>(h:Apart x z.2.1))
 ·
  refine Kd.S_mono (Kd.S_step h.told (fun j hj hlt=>hf j hlt (hj.2 _ hmem))) (fun j hj=>⟨hj.1,fun y hy=>?_⟩)
  rcases dZ3 t (x,o2) L y hy with hy|rfl
  · exact hj.2 y hy
  · exact (hj.2 (t,x,o) hmem:¬x.own j)
 ·
  intro y hy
  rcases dZ3 t (x,o2) L y hy with hy|rfl
  · exact h.len.2.2 y hy
  · exact hle
theorem Sys.remap (h:Sys w0 W k n s L told tv most) (hM:MapAt W2 k.m (L.map hsOf)) (hg:W.grownBy W2 (some k.m)):Sys w0 W2 k n s L told tv most:=by
  have hmp:=h.map.isMap
  have hf:∀ j,j<W.heap.size→j≠k.m→W2.heap[j]?=W.heap[j]?:=fun j hj hn=>hg.block j hj (fun e=>hn (Option.some.inj e))
  have far:∀ {n:HS} {s:St},IsSt W w0.heap.size n s→IsSt W2 w0.heap.size n s:=fun {n s} hs=>hs.keep (fun j hj hlt=>hf j hlt (fun e=>cZA hs hmp (e▸hj)))
  have hB:Below w0.heap.size W W2:=⟨hg.os,hg.tape,hg.output,hg.size,fun j hj=>hf j (Nat.lt_of_lt_of_le hj h.below.size) (fun e=>by have:=h.lm;omega)⟩
  have kb:∀ cs t,W.heap[k.m]?≠some (Obj.cells cs t (0,0)):=fun cs t e=>by
    obtain ⟨es,clk,hb,-⟩:=hmp
    rw [e] at hb
    cases hb
  refine ⟨h.below.trans hB,(hf _ (aZd h.blk) (fun e=>kb _ _ (by rw [←e];exact h.blk))).trans h.blk,h.lg,h.lm,hM,fun y hy=>far (h.sts y hy),far h.now,h.sep1,h.sep2,?_,cZx h.rows (fun j cs hc=>hf j (aZd hc) (fun e=>kb _ _ (e▸hc))),h.code,h.len⟩
  refine Kd.S_mono (Kd.S_step (Kd.S_bound h.told) (fun j hj hlt=>hf j hlt (fun e=>?_))) (fun j hj=>hj.1)
  obtain ⟨-,-,-,q,-,cs,hc⟩:=hj
  exact kb _ _ (e▸hc)
theorem Sys.take (h:Sys w0 W k n s L told tv most) {t:Int} {x:HS} {o:St} (hl:look L t=some (x,o)) (hM:MapAt W2 k.m (del (L.map hsOf) t)) (hg:W.grownBy W2 (some k.m)):Sys w0 W2 k x o (del L t) told tv most:=by
 have hmp:=h.map.isMap
 have hf:∀ j,j<W.heap.size→j≠k.m→W2.heap[j]?=W.heap[j]?:=fun j hj hn=>hg.block j hj (fun e=>hn (Option.some.inj e))
 have far:∀ {n:HS} {s:St},IsSt W w0.heap.size n s→IsSt W2 w0.heap.size n s:=fun {n s} hs=>hs.keep (fun j hj hlt=>hf j hlt (fun e=>cZA hs hmp (e▸hj)))
 have hB:Below w0.heap.size W W2:=⟨hg.os,hg.tape,hg.output,hg.size,fun j hj=>hf j (Nat.lt_of_lt_of_le hj h.below.size) (fun e=>by have:=h.lm;omega)⟩
 have kb:∀ cs t,W.heap[k.m]?≠some (Obj.cells cs t (0,0)):=fun cs t e=>by
  obtain ⟨es,clk,hb,-⟩:=hmp
  rw [e] at hb
  cases hb
 have hmem:=bZq t L _ hl
 refine ⟨h.below.trans hB,(hf _ (aZd h.blk) (fun e=>kb _ _ (by rw [←e];exact h.blk))).trans h.blk,h.lg,h.lm,?_,fun y hy=>far (h.sts y (cZ8 t L y hy)),far (h.sts _ hmem),?_,eZf (fun a b:Ent=>Apart a.2.1 b.2.1) t L h.sep2,?_,cZx h.rows (fun j cs hc=>hf j (aZd hc) (fun e=>kb _ _ (e▸hc))),h.code,(h.len.2.2 _ hmem).1,(h.len.2.2 _ hmem).2,fun y hy=>h.len.2.2 y (cZ8 t L y hy)⟩
 ·
  have:=fZY (fun y:HS × St=>y.1) t L
  rw [show (del L t).map hsOf=del (L.map hsOf) t from this.symm]
  exact hM
 · exact fun y hy=>dZ4 (fun a b:Ent=>Apart a.2.1 b.2.1) (fun _ _ h=>h.symm) t L (x,o) hl h.sep2 y hy
 ·
  refine Kd.S_mono (Kd.S_step (Kd.S_bound h.told) (fun j hj hlt=>hf j hlt (fun e=>?_))) (fun j hj=>⟨hj.1.2 _ hmem,fun y hy=>hj.1.2 y (cZ8 t L y hy)⟩)
  obtain ⟨-,-,-,q,-,cs,hc⟩:=hj
  exact kb _ _ (e▸hc)
theorem cZc {base:Nat} {ok:Nat→Prop} {v:Value} {l:List (List Int)} (h:Kd.S told2 51 W base ok v l) {j:Nat} (hj:v.ownBlock=some j):base≤j∧j<W.heap.size∧∃ cs,W.heap[j]?=some (Obj.cells cs 51 (0,0)):=by
  obtain ⟨inner,ho⟩:=Kd.S_own h
  exact ⟨bZo ho j hj,Go.Proofs.YtbnplhmmbnmagaaW.PrintWords.own_lt ho j hj,bZd ho j hj⟩
theorem Sys.fresh (h:Sys w0 W k n s L told tv most) {j:Nat} (hj:W.heap.size≤j):¬n.own j∧∀ x∈L,¬x.2.1.own j :=
  ⟨fun h2=>by have:=(own_lt h.now h2).2;omega,fun x hx h2=>by have:=(own_lt (h.sts x hx) h2).2;omega⟩
theorem Sys.tell (h:Sys w0 W k n s L told tv most) {told':List (List Int)} {tv':Value} {most':Int} (hblk:k.blk W2 tv' most') (hB:Below w0.heap.size W W2) (hf:∀ j,j<W.heap.size→j≠k.g→tv.ownBlock≠some j→W2.heap[j]?=W.heap[j]?)
    (ht:Kd.S told2 51 W2 w0.heap.size (fun j=>¬n.own j∧∀ x∈L,¬x.2.1.own j) tv' told'):Sys w0 W2 k n s L told' tv' most':=by
  have hmp:=h.map.isMap
  have ft : ∀ (j : Nat) (o : Obj), W.heap[j]? = some o → (∀ cs, o ≠ .cells cs 89 (0, 0)) → (∀ cs, o ≠ .cells cs 51 (0, 0)) → W2.heap[j]? = W.heap[j]? := fun j o ho h1 h2 => hf j (aZd ho) (fun e => h1 _ (Option.some.inj ((e ▸ ho).symm.trans h.blk))) (fun e => by
    obtain ⟨-,-,cs,hc⟩:=cZc h.told e
    exact h2 cs (Option.some.inj (ho.symm.trans hc)))
  have far : ∀ {n : HS} {s : St}, IsSt W w0.heap.size n s → IsSt W2 w0.heap.size n s := fun {n s} hs => hs.keep (fun j hj hlt => hf j hlt (fun e => own_ne_types hs h.blk (by decide) (by decide) (e ▸ hj)) (fun e => by
    obtain ⟨-,-,cs,hc⟩:=cZc h.told e
    exact own_ne_types hs hc (by decide) (by decide) hj))
  refine ⟨h.below.trans hB,hblk,h.lg,h.lm,h.map.of_block ?_,fun x hx=>far (h.sts x hx),far h.now,h.sep1,h.sep2,ht,cZx h.rows (fun j cs hc=>ft j _ hc (fun cs2 e=>by injection e with _ e;exact absurd e (by decide)) (fun cs2 e=>by injection e with _ e;exact absurd e (by decide))),h.code,h.len⟩
  obtain ⟨es,clk,hb,-⟩:=hmp
  exact ft _ _ hb (fun cs e=>by cases e) (fun cs e=>by cases e)
theorem Sys.g_ne (h:Sys w0 W k n s L told tv most):tv.ownBlock≠some k.g:=fun e=>by
  obtain ⟨-,-,cs,hc⟩:=cZc h.told e
  have:=hc.symm.trans h.blk
  injection this with this
  injection this with _ this
  exact absurd this (by decide)
theorem Sys.g_cells (h:Sys w0 W k n s L told tv most) (hg:W.grownBy W2 tv.ownBlock):k.blk W2 tv most:=(hg.block _ (aZd h.blk) (fun e=>h.g_ne e.symm)).trans h.blk
theorem Sys.told_push (h:Sys w0 W k n s L told tv most) {told':List (List Int)} {v1:Value} (hR:Kd.S told2 51 W2 w0.heap.size (fun j=>¬n.own j∧∀ x∈L,¬x.2.1.own j) v1 told') (hg:W.grownBy W2 tv.ownBlock) (nq:Nat) :
    Sys w0 ((W2.drewN nq).setCell ⟨k.g,9,none⟩ v1) k n s L told' v1 most:=by
  have hb0:k.blk W2 tv most:=h.g_cells hg
  have hb:k.blk (W2.drewN nq) tv most:=hb0
  have hbw:Below w0.heap.size W W2:=⟨hg.os,hg.tape,hg.output,hg.size,fun i hi=>hg.block i (Nat.lt_of_lt_of_le hi h.below.size) (fun e=>by have:=(cZc h.told e.symm).1;omega)⟩
  have e:∀ j,j≠k.g→((W2.drewN nq).setCell ⟨k.g,9,none⟩ v1).heap[j]?=W2.heap[j]?:=fun j hj=>Below.heap_setCell (W2.drewN nq) _ _ _ hj
  refine h.tell (eZW hb 9 v1 rfl) ((aZb hbw nq).setCell h.lg _) (fun j hj h1 h2=>(e j h1).trans (hg.block j hj (fun e2=>h2 e2.symm))) ?_
  exact Kd.S_mono (Kd.S_far (p:=⟨k.g,9,none⟩) (Kd.S_types (Kd.S_drewN hR nq) hb (by decide)) (fun _ hk=>hk.2) v1) (fun _ hk=>hk.1)
theorem Sys.most_set (h:Sys w0 W k n s L told tv most) (m2:Int) (nq:Nat):Sys w0 ((W.drewN nq).setCell ⟨k.g,10,none⟩ (.int .i64 m2)) k n s L told tv m2:=by
  have hb:k.blk (W.drewN nq) tv most:=h.blk
  have e:∀ j,j≠k.g→((W.drewN nq).setCell ⟨k.g,10,none⟩ (.int .i64 m2)).heap[j]?=W.heap[j]?:=fun j hj=>Below.heap_setCell (W.drewN nq) _ _ _ hj
  refine h.tell (eZW hb 10 _ rfl) ((aZb (Below.refl _ _) nq).setCell h.lg _) (fun j hj h1 _=>e j h1) ?_
  exact Kd.S_mono (Kd.S_far (p:=⟨k.g,10,none⟩) (Kd.S_types (Kd.S_drewN h.told nq) hb (by decide)) (fun _ hk=>hk.2) _) (fun _ hk=>hk.1)
theorem Sys.told_x (h:Sys w0 W k n s L told tv most) {X:Nat} {cs:Array Value} {u:TypeId} (hX:W.heap[X]?=some (.cells cs u (0,0))) (hu:u≠51) (hu2:u≠89) (hg:W.grownBy W2 tv.ownBlock) (nq i:Nat) (v1:Value):((W2.drewN nq).setCell ⟨k.g,i,none⟩ v1).heap[X]?=some (.cells cs u (0,0)):=by
  have e1:X≠k.g:=fun e=>by
    have:=(e▸hX).symm.trans h.blk
    injection this with this
    injection this with _ this
    exact hu2 this
  have e2:((W2.drewN nq).setCell ⟨k.g,i,none⟩ v1).heap[X]?=W2.heap[X]?:=Below.heap_setCell (W2.drewN nq) _ _ _ e1
  refine (e2.trans (hg.block X (aZd hX) (fun e=>?_))).trans hX
  obtain ⟨-,-,cs2,hc⟩:=cZc h.told e.symm
  have:=hX.symm.trans hc
  injection this with this
  injection this with _ this
  exact hu this
theorem info51:(Try.prog.info? 51).map (fun i=>(i.zero,i.size,i.bytes))=some (some (.slice none 0 0),1,24):=by kernel_rfl
end
def aZF (o s:St):St:=⟨o.stk,aZH o.loc s.loc,o.joined || !decide (o.stk=s.stk)⟩
def dZy (M:List (Int × St)) (t:Int) (s:St):List (Int × St) :=
  match look M t with
  | none=>M++[(t,⟨s.stk,s.loc,false⟩)]
  | some o=>upd M t (aZF o s)
def aZI (M:List (Int × St)) (i:Int) (s:St):St:=match look M i with|none=>s|some o=>aZF o s
theorem bZZ {M:List (Int × St)} {i:Int} {s:St} (h:look M i=none):aZI M i s=s:=by unfold aZI;rw [h]
theorem bZB {M:List (Int × St)} {i:Int} {s o:St} (h:look M i=some o):aZI M i s=aZF o s:=by unfold aZI;rw [h]
def runL (k:Wk):Nat→Nat→St→List (Int × St)→List (List Int)→Int→Except (Int × Int) (List (List Int) × Int)
  | 0,_,_,_,told,most=>.ok (told,most)
  | d+1,i,s,M,told,most =>
    if bZi k i≠0 then .error (i,bZi k i)
    else if (aZI M i s).joined=true then .error (i,218)
    else
      match aZ2 k.dep (aZg rowsL (aZi k.C i).f0) (aZi k.C i) (aZI M i s) with
      | .error e=>.error (i,e)
      | .ok s2 =>
        if (aZi k.C i).f0=33∨(aZi k.C i).f0=34 then runL k d (i+1) s2 (dZy (del M i) (aZi k.C i).f1 s2) (told++[(aZI M i s).stk]) (max most (aZI M i s).stk.length)
        else if (aZi k.C i).f0=36 then .ok (told++[(aZI M i s).stk],max most (aZI M i s).stk.length)
        else runL k d (i+1) s2 (del M i) (told++[(aZI M i s).stk]) (max most (aZI M i s).stk.length)
def runF (k:Wk):Except (Int × Int) (List (List Int) × Int):=runL k k.C.length 0 ⟨[],List.replicate k.loc.toNat 0,false⟩ [] [] 0
theorem aZY (a b:List Int) (h:a.length=b.length):(aZH a b).length=a.length:=by simp [aZH];omega
theorem fZT {L:List Ent} {t:Int}:look (L.map stOf) t=(look L t).map Prod.snd:=dZL (fun x:HS × St=>x.2) t L
theorem eZH {L:List Ent} {t:Int}:look (L.map hsOf) t=(look L t).map Prod.fst:=dZL (fun x:HS × St=>x.1) t L
theorem putF_loc {p:ByteArray} {x:S66} {stk loc stk2 loc2:List Int} {f:Int} (h:putF p x stk loc f=.ok (stk2,loc2)):loc2.length=loc.length:=by
 unfold putF at h
 split at h
 ·
  simp only [Except.ok.injEq,Prod.mk.injEq] at h
  obtain ⟨-,rfl⟩:=h
  split <;> simp
 split at h
 ·
  simp only [Except.ok.injEq,Prod.mk.injEq] at h
  rw [h.2]
 split at h
 ·
  split at h
  · cases h
  ·
   simp only [Except.ok.injEq,Prod.mk.injEq] at h
   rw [h.2]
 ·
  simp only [Except.ok.injEq,Prod.mk.injEq] at h
  rw [h.2]
theorem stepF_len {dep:Int} {r:S165} {x:S66} {s s2:St} (h:aZ2 dep r x s=.ok s2):(s2.stk.length:Int)≤dep∧s2.loc.length=s.loc.length:=by
 unfold aZ2 at h
 split at h
 · cases h
 split at h
 · cases h
 split at h
 · cases h
 ·
  rename_i stk loc hp
  split at h
  · cases h
  split at h
  · cases h
  ·
   obtain rfl:=Except.ok.inj h
   exact ⟨by dsimp only;omega,putF_loc hp⟩
theorem rowsL_l:bt (aZg rowsL 31).f0 0=108∧bt (aZg rowsL 32).f0 0=108:=by decide +kernel
theorem formF_ok {k:Wk} {i:Nat} (h:bZi k i=0):1≤(aZi k.C i).f0∧(aZi k.C i).f0≤36∧((aZi k.C i).f0=31∨(aZi k.C i).f0=32→0≤(aZi k.C i).f1∧(aZi k.C i).f1<k.loc):=by
 unfold bZi at h
 split at h
 · cases h
 split at h
 · cases h
 ·
  rename_i h1 h2
  refine ⟨by omega,by omega,fun h3=>?_⟩
  have h4:bZk k 108 (aZi k.C i).f1=true:=by
   have h5:bZk k (bt (aZg rowsL (aZi k.C i).f0).f0 0) (aZi k.C i).f1=true:=by
    cases hb:bZk k (bt (aZg rowsL (aZi k.C i).f0).f0 0) (aZi k.C i).f1 with
    | true=>rfl
    | false=>exact absurd (.inl hb) h2
   rcases h3 with h3|h3
   · rw [h3,rowsL_l.1] at h5;exact h5
   · rw [h3,rowsL_l.2] at h5;exact h5
  simpa [bZk] using h4
theorem putF_err {p:ByteArray} {x:S66} {stk loc:List Int} {f e:Int} (h:putF p x stk loc f=.error e):e=217:=by
 unfold putF at h
 split at h
 · cases h
 split at h
 · cases h
 split at h
 ·
  split at h
  · exact (Except.error.inj h).symm
  · cases h
 · cases h
theorem fZ6 {dep:Int} {r:S165} {x:S66} {s:St} {e:Int} (h:aZ2 dep r x s=.error e):e≠0:=by
 unfold aZ2 at h
 split at h
 · have:=Except.error.inj h;omega
 split at h
 · have:=Except.error.inj h;omega
 split at h
 ·
  rename_i e2 h2
  have:=putF_err h2
  have:=Except.error.inj h;omega
 ·
  split at h
  · have:=Except.error.inj h;omega
  split at h
  · have:=Except.error.inj h;omega
  · cases h
theorem leadF_new {L:List Ent} {t:Int} {s:St} {x:HS} (h:look L t=none):dZy (L.map stOf) t s=(L++[((t,x,(⟨s.stk,s.loc,false⟩:St)):Ent)]).map stOf:=by
  unfold dZy
  rw [fZT,h]
  simp [stOf]
theorem leadF_old {L:List Ent} {t:Int} {s o:St} {x:HS} (h:look L t=some (x,o)):dZy (L.map stOf) t s=(upd L t (x,aZF o s)).map stOf:=by
  unfold dZy
  rw [fZT,h]
  exact gZO (fun y:HS × St=>y.2) t (x,aZF o s) L
end Go.Proofs.Ytbnplhmmbnmagaa.D
