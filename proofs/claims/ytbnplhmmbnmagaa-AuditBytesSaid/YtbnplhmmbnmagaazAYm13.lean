/- The audit: what lies on the heap between its steps. -/
import Derived.Test.YtbnplhmmbnmagaazAYm12
set_option linter.unusedVariables false
set_option linter.unusedSimpArgs false
namespace Go.Proofs.Ytbnplhmmbnmagaa.D
open Go.RowKit Go.Proofs.YtbnplhmmbnmagaaW.PrintWords Go.Proofs.YtbnplhmmbnmagaaW.PrintLast Go.Proofs.YtbnplhmmbnmagaaW.PrintMore Go.Proofs.Ytbnplhmmbnmagaa.All
abbrev told2:Kd (List Int):=Kd.slice 73 (Kd.int .i64)
abbrev Ent:=Int × HS × St
def hsOf (x:Ent):Int × HS:=(x.1,x.2.1)
def stOf (x:Ent):Int × St:=(x.1,x.2.2)
theorem dZA {α β:Type} (f:α→β) (k:Int):∀ L:List (Int × α),look (L.map fun x=>(x.1,f x.2)) k=(look L k).map f
  | []=>rfl
  | (j,x) :: r=>by
    simp only [List.map_cons,look]
    split
    · rfl
    · exact dZA f k r
theorem del_map {α β:Type} (f:α→β) (k:Int):∀ L:List (Int × α),del (L.map fun x=>(x.1,f x.2)) k=(del L k).map fun x=>(x.1,f x.2)
  | []=>rfl
  | (j,x) :: r=>by
    simp only [List.map_cons,del]
    split
    · rfl
    · rw [del_map f k r];rfl
def upd {α:Type}:List (Int × α)→Int→α→List (Int × α)
  | [],_,_=>[]
  | (j,h) :: r,k,y=>if j=k then (j,y) :: r else (j,h) :: upd r k y
theorem gZl {α β:Type} (f:α→β) (k:Int) (y:α):∀ L:List (Int × α),upd (L.map fun x=>(x.1,f x.2)) k (f y)=(upd L k y).map fun x=>(x.1,f x.2)
  | []=>rfl
  | (j,x) :: r=>by
    simp only [List.map_cons,upd]
    split
    · rfl
    · rw [gZl f k y r];rfl
theorem upd_same {α β:Type} (f:α→β) (k:Int) (y:α):∀ (L:List (Int × α)) (x:α),look L k=some x→f y=f x→(upd L k y).map (fun x=>(x.1,f x.2))=L.map fun x=>(x.1,f x.2)
  | [],_,h,_=>by cases h
  | (j,z) :: r,x,h,e=>by
    simp only [upd,look] at h ⊢
    split
    · rename_i hj
      rw [if_pos hj] at h
      obtain rfl:=Option.some.inj h
      simp [e]
    · rename_i hj
      rw [if_neg hj] at h
      simp [upd_same f k y r x h e]
theorem bZo {α:Type} (k:Int):∀ (L:List (Int × α)) (x:α),look L k=some x→(k,x)∈L
  | [],_,h=>by cases h
  | (j,z) :: r,x,h=>by
    simp only [look] at h
    split at h
    · rename_i hj
      obtain rfl:=Option.some.inj h
      subst hj
      exact List.mem_cons_self
    · exact List.mem_cons_of_mem _ (bZo k r x h)
theorem look_upd {α:Type} (k:Int) (y:α):∀ (L:List (Int × α)) (x:α),look L k=some x→look (upd L k y) k=some y
  | [],_,h=>by cases h
  | (j,z) :: r,x,h=>by
    by_cases hj:j=k
    · simp [upd,look,hj]
    · simp only [look,if_neg hj] at h
      simp only [upd,if_neg hj,look,look_upd k y r x h]
theorem dZP {α:Type} (k:Int) (y:α):∀ (L:List (Int × α)) (z:Int × α),z∈upd L k y→z∈L∨z=(k,y)
  | [],_,h=>by cases h
  | (j,x) :: r,z,h=>by
    simp only [upd] at h
    split at h
    · rename_i hj
      rcases List.mem_cons.1 h with h|h
      · subst hj;exact .inr h
      · exact .inl (List.mem_cons_of_mem _ h)
    · rcases List.mem_cons.1 h with h|h
      · exact .inl (h▸List.mem_cons_self)
      · exact (dZP k y r z h).imp (List.mem_cons_of_mem _) id
theorem mem_upd' {α:Type} (k:Int) (y:α):∀ (L:List (Int × α)) (z:Int × α),z∈upd L k y→z∈del L k∨z=(k,y)
  | [],_,h=>by cases h
  | (j,x) :: r,z,h=>by
    simp only [upd] at h
    simp only [del]
    split at h
    · rename_i hj
      rw [if_pos hj]
      rcases List.mem_cons.1 h with h|h
      · subst hj;exact .inr h
      · exact .inl h
    · rename_i hj
      rw [if_neg hj]
      rcases List.mem_cons.1 h with h|h
      · exact .inl (h▸List.mem_cons_self)
      · exact (mem_upd' k y r z h).imp (List.mem_cons_of_mem _) id
theorem dZn {α:Type} (k:Int):∀ (L:List (Int × α)) (z:Int × α),z∈del L k→z∈L
  | [],_,h=>by cases h
  | (j,x) :: r,z,h=>by
    simp only [del] at h
    split at h
    · exact List.mem_cons_of_mem _ h
    · rcases List.mem_cons.1 h with h|h
      · exact h▸List.mem_cons_self
      · exact List.mem_cons_of_mem _ (dZn k r z h)
theorem del_none {α:Type} (k:Int):∀ L:List (Int × α),look L k=none→del L k=L
  | [],_=>rfl
  | (j,x) :: r,h=>by
    simp only [look] at h
    split at h
    · cases h
    · rename_i hj
      simp only [del,if_neg hj,del_none k r h]
theorem del_upd {α:Type} (k:Int) (y:α):∀ L:List (Int × α),del (upd L k y) k=del L k
  | []=>rfl
  | (j,x) :: r=>by
    by_cases hj:j=k
    · simp [upd,del,hj]
    · simp [upd,del,hj,del_upd k y r]
theorem dZ9 {α:Type} (R:(Int × α)→(Int × α)→Prop) (k:Int) (y:α):∀ (L:List (Int × α)) (x:α),look L k=some x→L.Pairwise R→(∀ z,R z (k,x)→R z (k,y))→(∀ z,R (k,x) z→R (k,y) z)→(upd L k y).Pairwise R
  | [],_,h,_,_,_=>by cases h
  | (j,z) :: r,x,h,hp,h1,h2=>by
    simp only [look] at h
    obtain ⟨hp1,hp2⟩:=List.pairwise_cons.1 hp
    simp only [upd]
    split at h
    · rename_i hj
      obtain rfl:=Option.some.inj h
      subst hj
      rw [if_pos rfl]
      exact List.pairwise_cons.2 ⟨fun a ha=>h2 a (hp1 a ha),hp2⟩
    · rename_i hj
      rw [if_neg hj]
      refine List.pairwise_cons.2 ⟨fun a ha=>?_,dZ9 R k y r x h hp2 h1 h2⟩
      rcases dZP k y r a ha with h3|rfl
      · exact hp1 a h3
      · exact h1 _ (hp1 _ (bZo k r x h))
theorem eZa {α:Type} (R:(Int × α)→(Int × α)→Prop) (k:Int):∀ (L:List (Int × α)),L.Pairwise R→(del L k).Pairwise R
  | [],h=>h
  | (j,z) :: r,hp=>by
    obtain ⟨hp1,hp2⟩:=List.pairwise_cons.1 hp
    simp only [del]
    split
    · exact hp2
    · exact List.pairwise_cons.2 ⟨fun a ha=>hp1 a (dZn k r a ha),eZa R k r hp2⟩
theorem dZQ {α:Type} (R:(Int × α)→(Int × α)→Prop) (hs:∀ a b,R a b→R b a) (k:Int):∀ (L:List (Int × α)) (x:α),look L k=some x→L.Pairwise R→∀ z∈del L k,R z (k,x)
  | [],_,h,_=>by cases h
  | (j,z) :: r,x,h,hp=>by
    simp only [look] at h
    obtain ⟨hp1,hp2⟩:=List.pairwise_cons.1 hp
    intro a ha
    simp only [del] at ha
    split at h
    · rename_i hj
      obtain rfl:=Option.some.inj h
      subst hj
      rw [if_pos rfl] at ha
      exact hs _ _ (hp1 a ha)
    · rename_i hj
      rw [if_neg hj] at ha
      rcases List.mem_cons.1 ha with rfl|ha
      · exact hp1 _ (bZo k r x h)
      · exact dZQ R hs k r x h hp2 a ha
def Apart (a b:HS):Prop:=∀ j,a.own j→¬b.own j
theorem Apart.symm {a b:HS} (h:Apart a b):Apart b a:=fun j hb ha=>h j ha hb
structure Sys (w0 W:World) (k:Wk) (n:HS) (s:St) (L:List Ent) (told:List (List Int)) (tv:Value) (most:Int):Prop where
  below:Below w0.heap.size w0 W
  blk:k.blk W tv most
  lg:w0.heap.size≤k.g
  lm:w0.heap.size≤k.m
  map:MapAt W k.m (L.map hsOf)
  sts:∀ x∈L,IsSt W w0.heap.size x.2.1 x.2.2
  now:IsSt W w0.heap.size n s
  sep1:∀ x∈L,Apart x.2.1 n
  sep2:L.Pairwise (fun a b=>Apart a.2.1 b.2.1)
  told:told2.R 51 W w0.heap.size (fun j=>¬n.own j∧∀ x∈L,¬x.2.1.own j) tv told
  rows:k165.R 165 W w0.heap.size (fun _=>True) (.slice k.ar 37 k.cr) rowsL
  code:Kd.C k66 w0 k.a4 k.C.length k.C
  len:s.stk.length≤128∧(s.loc.length:Int)=k.loc∧∀ x∈L,x.2.2.stk.length≤128∧(x.2.2.loc.length:Int)=k.loc
theorem cZA {W:World} {base:Nat} {h:HS} {s:St} (hs:IsSt W base h s) {m:Nat} (hm:IsMap W m):¬h.own m:=by
 rintro (e|e|e)
 ·
  obtain ⟨es,clk,hb,-⟩:=hm
  rw [e,hs.blk] at hb
  cases hb
 · exact Row.map_ne hs.stk hm e
 · exact Row.map_ne hs.loc hm e
theorem own_ne_types {W:World} {base:Nat} {h:HS} {s:St} (hs:IsSt W base h s) {a:Nat} {ca:Array Value} {t:TypeId} (ha:W.heap[a]?=some (.cells ca t (0,0))) (h1:t≠168) (h2:t≠73):¬h.own a:=by
 have row:∀ {ok:Nat→Prop} {v:Value} {l:List Int},Row W base ok v l→v.ownBlock≠some a:=fun {ok v l} hr e=>by
  obtain ⟨inner,ho⟩:=Kd.R_own hr
  obtain ⟨cells,hc⟩:=bZg ho a e
  rw [ha] at hc
  injection hc with hc
  injection hc with _ hc
  exact h2 hc
 rintro (e|e|e)
 ·
  rw [e,hs.blk] at ha
  injection ha with ha
  injection ha with _ ha
  exact h1 ha.symm
 · exact row hs.stk e
 · exact row hs.loc e
theorem own_lt {W:World} {base:Nat} {h:HS} {s:St} (hs:IsSt W base h s) {j:Nat} (hj:h.own j):base≤j∧j<W.heap.size:=by
 rcases hj with e|e|e
 · exact e▸⟨hs.lo,aZd hs.blk⟩
 · exact Row.lo hs.stk e
 · exact Row.lo hs.loc e
theorem cZw {W W2:World} {base:Nat} {v:Value} {l:List S165} (h:k165.R 165 W base (fun _=>True) v l) (hm:∀ (j:Nat) (cs:Array Value),W.heap[j]?=some (Obj.cells cs 165 (0,0))→W2.heap[j]?=W.heap[j]?):k165.R 165 W2 base (fun _=>True) v l :=
  Kd.R_mono (Kd.R_move (Kd.R_bound h) (fun k hk => by
    obtain ⟨-,-,-,q,hq,cs,hc⟩:=hk
    have:q=165:=by simpa [k165,Kd.iso,Kd.pair,Kd.string,Kd.scalar] using hq
    subst this
    exact hm k cs hc)) (fun _ _=>trivial)
section
variable {w0 W W2:World} {k:Wk} {n:HS} {s:St} {L:List Ent} {told:List (List Int)} {tv:Value} {most:Int}
theorem Sys.grow (h:Sys w0 W k n s L told tv most) (hb:Below W.heap.size W W2):Sys w0 W2 k n s L told tv most :=
  ⟨h.below.trans (hb.mono h.below.size),(hb.block _ (aZd h.blk)).trans h.blk,h.lg,h.lm,h.map.of_block (hb.block _ h.map.lt),fun x hx=>(h.sts x hx).below hb,h.now.below hb,h.sep1,h.sep2,Kd.R_below h.told hb,Kd.R_below h.rows hb,h.code,h.len⟩
theorem Sys.step (h:Sys w0 W k n s L told tv most) (hB:Below w0.heap.size W W2) (hf:∀ j,j<W.heap.size→¬n.own j→W2.heap[j]?=W.heap[j]?) {n2:HS} {s2:St} (hn:IsSt W2 w0.heap.size n2 s2) (ho:∀ j,n2.own j→n.own j∨W.heap.size≤j) (hl:s2.stk.length≤128∧(s2.loc.length:Int)=k.loc):Sys w0 W2 k n2 s2 L told tv most:=by
 have hmp:=h.map.isMap
 refine ⟨h.below.trans hB,(hf _ (aZd h.blk) (own_ne_types h.now h.blk (by decide) (by decide))).trans h.blk,h.lg,h.lm,h.map.of_block (hf _ h.map.lt (cZA h.now hmp)),fun x hx=>(h.sts x hx).keep (fun j hj hlt=>hf j hlt (h.sep1 x hx j hj)),hn,fun x hx j hj hj2=>?_,h.sep2,?_,cZw h.rows (fun j cs hc=>hf j (aZd hc) (own_ne_types h.now hc (by decide) (by decide))),h.code,⟨hl.1,hl.2,h.len.2.2⟩⟩
 ·
  rcases ho j hj2 with h1|h1
  · exact h.sep1 x hx j hj h1
  ·
   have:=(own_lt (h.sts x hx) hj).2
   omega
 · exact Kd.R_mono (Kd.R_step (Kd.R_bound h.told) (fun j hj hlt=>hf j hlt hj.1.1)) (fun j hj=>⟨fun h2=>(ho j h2).elim hj.1.1 (fun h3=>by have:=hj.2.2.1;omega),hj.1.2⟩)
theorem Sys.lead_new (h:Sys w0 W k n s L told tv most) {t:Int} {x:HS} (hM:MapAt W2 k.m (L.map hsOf++[(t,x)])) (hx:IsSt W2 W.heap.size x ⟨s.stk,s.loc,false⟩) (hg:W.grownBy W2 (some k.m)) (ho:∀ j,x.own j→W.heap.size≤j):Sys w0 W2 k n s (L++[(t,x,⟨s.stk,s.loc,false⟩)]) told tv most:=by
 have hmp:=h.map.isMap
 have hf:∀ j,j<W.heap.size→j≠k.m→W2.heap[j]?=W.heap[j]?:=fun j hj hn=>hg.block j hj (fun e=>hn (Option.some.inj e))
 have far:∀ {n:HS} {s:St},IsSt W w0.heap.size n s→IsSt W2 w0.heap.size n s:=fun {n s} hs=>hs.keep (fun j hj hlt=>hf j hlt (fun e=>cZA hs hmp (e▸hj)))
 have hB:Below w0.heap.size W W2:=⟨hg.os,hg.tape,hg.output,hg.size,fun j hj=>hf j (Nat.lt_of_lt_of_le hj h.below.size) (fun e=>by have:=h.lm;omega)⟩
 have hx2:IsSt W2 w0.heap.size x ⟨s.stk,s.loc,false⟩:=⟨hx.blk,Kd.R_lower hx.stk h.below.size,Kd.R_lower hx.loc h.below.size,hx.ne,Nat.le_trans h.below.size hx.lo⟩
 have ap:∀ {n:HS} {s:St},IsSt W w0.heap.size n s→Apart x n:=fun {n s} hs j hj hj2=>by have:=ho j hj;have:=(own_lt hs hj2).2;omega
 have kb:∀ cs t,W.heap[k.m]?≠some (Obj.cells cs t (0,0)):=fun cs t e=>by
  obtain ⟨es,clk,hb,-⟩:=hmp
  rw [e] at hb
  cases hb
 refine ⟨h.below.trans hB,(hf _ (aZd h.blk) (fun e=>kb _ _ (by rw [←e];exact h.blk))).trans h.blk,h.lg,h.lm,by rw [List.map_append];exact hM,?_,far h.now,?_,?_,?_,cZw h.rows (fun j cs hc=>hf j (aZd hc) (fun e=>kb _ _ (e▸hc))),h.code,h.len.1,h.len.2.1,?_⟩
 ·
  intro y hy
  rcases List.mem_append.1 hy with hy|hy
  · exact far (h.sts y hy)
  · rw [List.mem_singleton.1 hy];exact hx2
 ·
  intro y hy
  rcases List.mem_append.1 hy with hy|hy
  · exact h.sep1 y hy
  · rw [List.mem_singleton.1 hy];exact ap h.now
 ·
  refine List.pairwise_append.2 ⟨h.sep2,by simp,fun a ha b hb=>?_⟩
  rw [List.mem_singleton.1 hb]
  exact (ap (h.sts a ha)).symm
 ·
  refine Kd.R_mono (Kd.R_step (Kd.R_bound h.told) (fun j hj hlt=>hf j hlt (fun e=>?_))) (fun j hj=>⟨hj.1.1,fun y hy=>?_⟩)
  ·
   obtain ⟨-,-,-,q,-,cs,hc⟩:=hj
   exact kb _ _ (e▸hc)
  ·
   rcases List.mem_append.1 hy with hy|hy
   · exact hj.1.2 y hy
   ·
    rw [List.mem_singleton.1 hy]
    intro h2
    have:=ho j h2
    have:=hj.2.2.1
    omega
 ·
  intro y hy
  rcases List.mem_append.1 hy with hy|hy
  · exact h.len.2.2 y hy
  · rw [List.mem_singleton.1 hy];exact ⟨h.len.1,h.len.2.1⟩
theorem Sys.lead_old (h:Sys w0 W k n s L told tv most) {t:Int} {x:HS} {o o2:St} (hl:look L t=some (x,o)) (hx:IsSt W2 w0.heap.size x o2) (hB:Below w0.heap.size W W2) (hf:∀ j,j<W.heap.size→¬x.own j→W2.heap[j]?=W.heap[j]?) (hle:o2.stk.length≤128∧(o2.loc.length:Int)=k.loc):Sys w0 W2 k n s (upd L t (x,o2)) told tv most:=by
 have hmp:=h.map.isMap
 have hmem:=bZo t L _ hl
 have hxs:=h.sts _ hmem
 have hmap:(upd L t (x,o2)).map hsOf=L.map hsOf:=upd_same (fun y:HS × St=>y.1) t (x,o2) L (x,o) hl rfl
 refine ⟨h.below.trans hB,(hf _ (aZd h.blk) (own_ne_types hxs h.blk (by decide) (by decide))).trans h.blk,h.lg,h.lm,by rw [hmap];exact h.map.of_block (hf _ h.map.lt (cZA hxs hmp)),?_,h.now.keep (fun j hj hlt=>hf j hlt (fun hj2=>h.sep1 _ hmem j hj2 hj)),?_,?_,?_,cZw h.rows (fun j cs hc=>hf j (aZd hc) (own_ne_types hxs hc (by decide) (by decide))),h.code,h.len.1,h.len.2.1,?_⟩
 ·
  intro y hy
  rcases mem_upd' t (x,o2) L y hy with hy|rfl
  ·
   have hap:Apart y.2.1 x:=dZQ (fun a b:Ent=>Apart a.2.1 b.2.1) (fun _ _ h=>h.symm) t L (x,o) hl h.sep2 y hy
   exact (h.sts y (dZn t L y hy)).keep (fun j hj hlt=>hf j hlt (fun hj2=>hap j hj hj2))
  · exact hx
 ·
  intro y hy
  rcases dZP t (x,o2) L y hy with hy|rfl
  · exact h.sep1 y hy
  · exact (h.sep1 (t,x,o) hmem:Apart x n)
 · exact dZ9 (fun a b:Ent=>Apart a.2.1 b.2.1) t (x,o2) L (x,o) hl h.sep2 (fun z (h:Apart z.2.1 x)=>(h:Apart z.2.1 x)) (fun z (h:Apart x z.2.1)=>(h:Apart x z.2.1))
 ·
  refine Kd.R_mono (Kd.R_step h.told (fun j hj hlt=>hf j hlt (hj.2 _ hmem))) (fun j hj=>⟨hj.1,fun y hy=>?_⟩)
  rcases dZP t (x,o2) L y hy with hy|rfl
  · exact hj.2 y hy
  · exact (hj.2 (t,x,o) hmem:¬x.own j)
 ·
  intro y hy
  rcases dZP t (x,o2) L y hy with hy|rfl
  · exact h.len.2.2 y hy
  · exact hle
theorem Sys.remap (h:Sys w0 W k n s L told tv most) (hM:MapAt W2 k.m (L.map hsOf)) (hg:W.grownBy W2 (some k.m)):Sys w0 W2 k n s L told tv most:=by
  have hmp:=h.map.isMap
  have hf:∀ j,j<W.heap.size→j≠k.m→W2.heap[j]?=W.heap[j]?:=fun j hj hn=>hg.block j hj (fun e=>hn (Option.some.inj e))
  have far:∀ {n:HS} {s:St},IsSt W w0.heap.size n s→IsSt W2 w0.heap.size n s:=fun {n s} hs=>hs.keep (fun j hj hlt=>hf j hlt (fun e=>cZA hs hmp (e▸hj)))
  have hB:Below w0.heap.size W W2:=⟨hg.os,hg.tape,hg.output,hg.size,fun j hj=>hf j (Nat.lt_of_lt_of_le hj h.below.size) (fun e=>by have:=h.lm;omega)⟩
  have kb:∀ cs t,W.heap[k.m]?≠some (Obj.cells cs t (0,0)):=fun cs t e=>by
    obtain ⟨es,clk,hb,-⟩:=hmp
    rw [e] at hb
    cases hb
  refine ⟨h.below.trans hB,(hf _ (aZd h.blk) (fun e=>kb _ _ (by rw [←e];exact h.blk))).trans h.blk,h.lg,h.lm,hM,fun y hy=>far (h.sts y hy),far h.now,h.sep1,h.sep2,?_,cZw h.rows (fun j cs hc=>hf j (aZd hc) (fun e=>kb _ _ (e▸hc))),h.code,h.len⟩
  refine Kd.R_mono (Kd.R_step (Kd.R_bound h.told) (fun j hj hlt=>hf j hlt (fun e=>?_))) (fun j hj=>hj.1)
  obtain ⟨-,-,-,q,-,cs,hc⟩:=hj
  exact kb _ _ (e▸hc)
theorem Sys.take (h:Sys w0 W k n s L told tv most) {t:Int} {x:HS} {o:St} (hl:look L t=some (x,o)) (hM:MapAt W2 k.m (del (L.map hsOf) t)) (hg:W.grownBy W2 (some k.m)):Sys w0 W2 k x o (del L t) told tv most:=by
 have hmp:=h.map.isMap
 have hf:∀ j,j<W.heap.size→j≠k.m→W2.heap[j]?=W.heap[j]?:=fun j hj hn=>hg.block j hj (fun e=>hn (Option.some.inj e))
 have far:∀ {n:HS} {s:St},IsSt W w0.heap.size n s→IsSt W2 w0.heap.size n s:=fun {n s} hs=>hs.keep (fun j hj hlt=>hf j hlt (fun e=>cZA hs hmp (e▸hj)))
 have hB:Below w0.heap.size W W2:=⟨hg.os,hg.tape,hg.output,hg.size,fun j hj=>hf j (Nat.lt_of_lt_of_le hj h.below.size) (fun e=>by have:=h.lm;omega)⟩
 have kb:∀ cs t,W.heap[k.m]?≠some (Obj.cells cs t (0,0)):=fun cs t e=>by
  obtain ⟨es,clk,hb,-⟩:=hmp
  rw [e] at hb
  cases hb
 have hmem:=bZo t L _ hl
 refine ⟨h.below.trans hB,(hf _ (aZd h.blk) (fun e=>kb _ _ (by rw [←e];exact h.blk))).trans h.blk,h.lg,h.lm,?_,fun y hy=>far (h.sts y (dZn t L y hy)),far (h.sts _ hmem),?_,eZa (fun a b:Ent=>Apart a.2.1 b.2.1) t L h.sep2,?_,cZw h.rows (fun j cs hc=>hf j (aZd hc) (fun e=>kb _ _ (e▸hc))),h.code,(h.len.2.2 _ hmem).1,(h.len.2.2 _ hmem).2,fun y hy=>h.len.2.2 y (dZn t L y hy)⟩
 ·
  have:=del_map (fun y:HS × St=>y.1) t L
  rw [show (del L t).map hsOf=del (L.map hsOf) t from this.symm]
  exact hM
 · exact fun y hy=>dZQ (fun a b:Ent=>Apart a.2.1 b.2.1) (fun _ _ h=>h.symm) t L (x,o) hl h.sep2 y hy
 ·
  refine Kd.R_mono (Kd.R_step (Kd.R_bound h.told) (fun j hj hlt=>hf j hlt (fun e=>?_))) (fun j hj=>⟨hj.1.2 _ hmem,fun y hy=>hj.1.2 y (dZn t L y hy)⟩)
  obtain ⟨-,-,-,q,-,cs,hc⟩:=hj
  exact kb _ _ (e▸hc)
theorem bZ7 {base:Nat} {ok:Nat→Prop} {v:Value} {l:List (List Int)} (h:told2.R 51 W base ok v l) {j:Nat} (hj:v.ownBlock=some j):base≤j∧j<W.heap.size∧∃ cs,W.heap[j]?=some (Obj.cells cs 51 (0,0)):=by
  obtain ⟨inner,ho⟩:=Kd.R_own h
  exact ⟨bZv ho j hj,Go.Proofs.YtbnplhmmbnmagaaW.PrintWords.own_lt ho j hj,bZg ho j hj⟩
theorem Sys.fresh (h:Sys w0 W k n s L told tv most) {j:Nat} (hj:W.heap.size≤j):¬n.own j∧∀ x∈L,¬x.2.1.own j :=
  ⟨fun h2=>by have:=(own_lt h.now h2).2;omega,fun x hx h2=>by have:=(own_lt (h.sts x hx) h2).2;omega⟩
theorem Sys.tell (h:Sys w0 W k n s L told tv most) {told':List (List Int)} {tv':Value} {most':Int} (hblk:k.blk W2 tv' most') (hB:Below w0.heap.size W W2) (hf:∀ j,j<W.heap.size→j≠k.g→tv.ownBlock≠some j→W2.heap[j]?=W.heap[j]?)
    (ht:told2.R 51 W2 w0.heap.size (fun j=>¬n.own j∧∀ x∈L,¬x.2.1.own j) tv' told'):Sys w0 W2 k n s L told' tv' most':=by
  have hmp:=h.map.isMap
  have ft : ∀ (j : Nat) (o : Obj), W.heap[j]? = some o → (∀ cs, o ≠ .cells cs 89 (0, 0)) → (∀ cs, o ≠ .cells cs 51 (0, 0)) → W2.heap[j]? = W.heap[j]? := fun j o ho h1 h2 => hf j (aZd ho) (fun e => h1 _ (Option.some.inj ((e ▸ ho).symm.trans h.blk))) (fun e => by
    obtain ⟨-,-,cs,hc⟩:=bZ7 h.told e
    exact h2 cs (Option.some.inj (ho.symm.trans hc)))
  have far : ∀ {n : HS} {s : St}, IsSt W w0.heap.size n s → IsSt W2 w0.heap.size n s := fun {n s} hs => hs.keep (fun j hj hlt => hf j hlt (fun e => own_ne_types hs h.blk (by decide) (by decide) (e ▸ hj)) (fun e => by
    obtain ⟨-,-,cs,hc⟩:=bZ7 h.told e
    exact own_ne_types hs hc (by decide) (by decide) hj))
  refine ⟨h.below.trans hB,hblk,h.lg,h.lm,h.map.of_block ?_,fun x hx=>far (h.sts x hx),far h.now,h.sep1,h.sep2,ht,cZw h.rows (fun j cs hc=>ft j _ hc (fun cs2 e=>by injection e with _ e;exact absurd e (by decide)) (fun cs2 e=>by injection e with _ e;exact absurd e (by decide))),h.code,h.len⟩
  obtain ⟨es,clk,hb,-⟩:=hmp
  exact ft _ _ hb (fun cs e=>by cases e) (fun cs e=>by cases e)
theorem Sys.g_ne (h:Sys w0 W k n s L told tv most):tv.ownBlock≠some k.g:=fun e=>by
  obtain ⟨-,-,cs,hc⟩:=bZ7 h.told e
  have:=hc.symm.trans h.blk
  injection this with this
  injection this with _ this
  exact absurd this (by decide)
theorem Sys.g_cells (h:Sys w0 W k n s L told tv most) (hg:W.grownBy W2 tv.ownBlock):k.blk W2 tv most:=(hg.block _ (aZd h.blk) (fun e=>h.g_ne e.symm)).trans h.blk
theorem Sys.told_push (h:Sys w0 W k n s L told tv most) {told':List (List Int)} {v1:Value} (hR:told2.R 51 W2 w0.heap.size (fun j=>¬n.own j∧∀ x∈L,¬x.2.1.own j) v1 told') (hg:W.grownBy W2 tv.ownBlock) (nq:Nat) :
    Sys w0 ((W2.drewN nq).setCell ⟨k.g,9,none⟩ v1) k n s L told' v1 most:=by
  have hb0:k.blk W2 tv most:=h.g_cells hg
  have hb:k.blk (W2.drewN nq) tv most:=hb0
  have hbw:Below w0.heap.size W W2:=⟨hg.os,hg.tape,hg.output,hg.size,fun i hi=>hg.block i (Nat.lt_of_lt_of_le hi h.below.size) (fun e=>by have:=(bZ7 h.told e.symm).1;omega)⟩
  have e:∀ j,j≠k.g→((W2.drewN nq).setCell ⟨k.g,9,none⟩ v1).heap[j]?=W2.heap[j]?:=fun j hj=>Below.heap_setCell (W2.drewN nq) _ _ _ hj
  refine h.tell (eZL hb 9 v1 rfl) ((aZa hbw nq).setCell h.lg _) (fun j hj h1 h2=>(e j h1).trans (hg.block j hj (fun e2=>h2 e2.symm))) ?_
  exact Kd.R_mono (Kd.R_far (p:=⟨k.g,9,none⟩) (Kd.R_types (Kd.R_drewN hR nq) hb (by decide)) (fun _ hk=>hk.2) v1) (fun _ hk=>hk.1)
theorem Sys.most_set (h:Sys w0 W k n s L told tv most) (m2:Int) (nq:Nat):Sys w0 ((W.drewN nq).setCell ⟨k.g,10,none⟩ (.int .i64 m2)) k n s L told tv m2:=by
  have hb:k.blk (W.drewN nq) tv most:=h.blk
  have e:∀ j,j≠k.g→((W.drewN nq).setCell ⟨k.g,10,none⟩ (.int .i64 m2)).heap[j]?=W.heap[j]?:=fun j hj=>Below.heap_setCell (W.drewN nq) _ _ _ hj
  refine h.tell (eZL hb 10 _ rfl) ((aZa (Below.refl _ _) nq).setCell h.lg _) (fun j hj h1 _=>e j h1) ?_
  exact Kd.R_mono (Kd.R_far (p:=⟨k.g,10,none⟩) (Kd.R_types (Kd.R_drewN h.told nq) hb (by decide)) (fun _ hk=>hk.2) _) (fun _ hk=>hk.1)
theorem Sys.told_x (h:Sys w0 W k n s L told tv most) {X:Nat} {cs:Array Value} {u:TypeId} (hX:W.heap[X]?=some (.cells cs u (0,0))) (hu:u≠51) (hu2:u≠89) (hg:W.grownBy W2 tv.ownBlock) (nq i:Nat) (v1:Value):((W2.drewN nq).setCell ⟨k.g,i,none⟩ v1).heap[X]?=some (.cells cs u (0,0)):=by
  have e1:X≠k.g:=fun e=>by
    have:=(e▸hX).symm.trans h.blk
    injection this with this
    injection this with _ this
    exact hu2 this
  have e2:((W2.drewN nq).setCell ⟨k.g,i,none⟩ v1).heap[X]?=W2.heap[X]?:=Below.heap_setCell (W2.drewN nq) _ _ _ e1
  refine (e2.trans (hg.block X (aZd hX) (fun e=>?_))).trans hX
  obtain ⟨-,-,cs2,hc⟩:=bZ7 h.told e.symm
  have:=hX.symm.trans hc
  injection this with this
  injection this with _ this
  exact hu this
theorem info51:(Try.prog.info? 51).map (fun i=>(i.zero,i.size,i.bytes))=some (some (.slice none 0 0),1,24):=by kernel_rfl
end
def aZB (o s:St):St:=⟨o.stk,aZD o.loc s.loc,o.joined || !decide (o.stk=s.stk)⟩
def dZq (M:List (Int × St)) (t:Int) (s:St):List (Int × St) :=
  match look M t with
  | none=>M++[(t,⟨s.stk,s.loc,false⟩)]
  | some o=>upd M t (aZB o s)
def aZP (M:List (Int × St)) (i:Int) (s:St):St:=match look M i with|none=>s|some o=>aZB o s
theorem bZU {M:List (Int × St)} {i:Int} {s:St} (h:look M i=none):aZP M i s=s:=by unfold aZP;rw [h]
theorem bZz {M:List (Int × St)} {i:Int} {s o:St} (h:look M i=some o):aZP M i s=aZB o s:=by unfold aZP;rw [h]
def runL (k:Wk):Nat→Nat→St→List (Int × St)→List (List Int)→Int→Except (Int × Int) (List (List Int) × Int)
  | 0,_,_,_,told,most=>.ok (told,most)
  | d+1,i,s,M,told,most =>
    if bZx k i≠0 then .error (i,bZx k i)
    else if (aZP M i s).joined=true then .error (i,218)
    else
      match bZd k.dep (aZf rowsL (aZg k.C i).f0) (aZg k.C i) (aZP M i s) with
      | .error e=>.error (i,e)
      | .ok s2 =>
        if (aZg k.C i).f0=33∨(aZg k.C i).f0=34 then runL k d (i+1) s2 (dZq (del M i) (aZg k.C i).f1 s2) (told++[(aZP M i s).stk]) (max most (aZP M i s).stk.length)
        else if (aZg k.C i).f0=36 then .ok (told++[(aZP M i s).stk],max most (aZP M i s).stk.length)
        else runL k d (i+1) s2 (del M i) (told++[(aZP M i s).stk]) (max most (aZP M i s).stk.length)
def runF (k:Wk):Except (Int × Int) (List (List Int) × Int):=runL k k.C.length 0 ⟨[],List.replicate k.loc.toNat 0,false⟩ [] [] 0
theorem aZW (a b:List Int) (h:a.length=b.length):(aZD a b).length=a.length:=by simp [aZD];omega
theorem fZz {L:List Ent} {t:Int}:look (L.map stOf) t=(look L t).map Prod.snd:=dZA (fun x:HS × St=>x.2) t L
theorem eZu {L:List Ent} {t:Int}:look (L.map hsOf) t=(look L t).map Prod.fst:=dZA (fun x:HS × St=>x.1) t L
theorem putF_loc {p:ByteArray} {x:S66} {stk loc stk2 loc2:List Int} {f:Int} (h:putF p x stk loc f=.ok (stk2,loc2)):loc2.length=loc.length:=by
 unfold putF at h
 split at h
 ·
  simp only [Except.ok.injEq,Prod.mk.injEq] at h
  obtain ⟨-,rfl⟩:=h
  split <;> simp
 split at h
 ·
  simp only [Except.ok.injEq,Prod.mk.injEq] at h
  rw [h.2]
 split at h
 ·
  split at h
  · cases h
  ·
   simp only [Except.ok.injEq,Prod.mk.injEq] at h
   rw [h.2]
 ·
  simp only [Except.ok.injEq,Prod.mk.injEq] at h
  rw [h.2]
theorem stepF_len {dep:Int} {r:S165} {x:S66} {s s2:St} (h:bZd dep r x s=.ok s2):(s2.stk.length:Int)≤dep∧s2.loc.length=s.loc.length:=by
 unfold bZd at h
 split at h
 · cases h
 split at h
 · cases h
 split at h
 · cases h
 ·
  rename_i stk loc hp
  split at h
  · cases h
  split at h
  · cases h
  ·
   obtain rfl:=Except.ok.inj h
   exact ⟨by dsimp only;omega,putF_loc hp⟩
theorem rowsL_l:bt (aZf rowsL 31).f0 0=108∧bt (aZf rowsL 32).f0 0=108:=by decide +kernel
theorem formF_ok {k:Wk} {i:Nat} (h:bZx k i=0):1≤(aZg k.C i).f0∧(aZg k.C i).f0≤36∧((aZg k.C i).f0=31∨(aZg k.C i).f0=32→0≤(aZg k.C i).f1∧(aZg k.C i).f1<k.loc):=by
 unfold bZx at h
 split at h
 · cases h
 split at h
 · cases h
 ·
  rename_i h1 h2
  refine ⟨by omega,by omega,fun h3=>?_⟩
  have h4:bZH k 108 (aZg k.C i).f1=true:=by
   have h5:bZH k (bt (aZf rowsL (aZg k.C i).f0).f0 0) (aZg k.C i).f1=true:=by
    cases hb:bZH k (bt (aZf rowsL (aZg k.C i).f0).f0 0) (aZg k.C i).f1 with
    | true=>rfl
    | false=>exact absurd (.inl hb) h2
   rcases h3 with h3|h3
   · rw [h3,rowsL_l.1] at h5;exact h5
   · rw [h3,rowsL_l.2] at h5;exact h5
  simpa [bZH] using h4
theorem putF_err {p:ByteArray} {x:S66} {stk loc:List Int} {f e:Int} (h:putF p x stk loc f=.error e):e=217:=by
 unfold putF at h
 split at h
 · cases h
 split at h
 · cases h
 split at h
 ·
  split at h
  · exact (Except.error.inj h).symm
  · cases h
 · cases h
theorem fZK {dep:Int} {r:S165} {x:S66} {s:St} {e:Int} (h:bZd dep r x s=.error e):e≠0:=by
 unfold bZd at h
 split at h
 · have:=Except.error.inj h;omega
 split at h
 · have:=Except.error.inj h;omega
 split at h
 ·
  rename_i e2 h2
  have:=putF_err h2
  have:=Except.error.inj h;omega
 ·
  split at h
  · have:=Except.error.inj h;omega
  split at h
  · have:=Except.error.inj h;omega
  · cases h
theorem leadF_new {L:List Ent} {t:Int} {s:St} {x:HS} (h:look L t=none):dZq (L.map stOf) t s=(L++[((t,x,(⟨s.stk,s.loc,false⟩:St)):Ent)]).map stOf:=by
  unfold dZq
  rw [fZz,h]
  simp [stOf]
theorem leadF_old {L:List Ent} {t:Int} {s o:St} {x:HS} (h:look L t=some (x,o)):dZq (L.map stOf) t s=(upd L t (x,aZB o s)).map stOf:=by
  unfold dZq
  rw [fZz,h]
  exact gZl (fun y:HS × St=>y.2) t (x,aZB o s) L
end Go.Proofs.Ytbnplhmmbnmagaa.D
