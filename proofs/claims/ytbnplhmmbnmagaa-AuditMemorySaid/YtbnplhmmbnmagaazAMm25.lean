/- What a row's argument reads as, told in the print's own kinds: one lemma for each make of a type (whole numbers, bools, strings, slices, structs). No Go and no program in sight. -/
import Derived.Test.YtbnplhmmbnmagaazAMw0
import Derived.OpenShut
import Derived.ChangeSlices
import Derived.ChangeArms
import Derived.SizedLaws
import Derived.ShutString
namespace Go.Proofs.YtbnplhmmbnmagaaO
open Go.Proofs.YtbnplhmmbnmagaaW.PrintWords Go.ChangeShapes Go.WideShapes
def InK (k:IntKind) (n:Int):Prop:=(Lit.int k n).wf=true
def dZU {α:Type} (P:Program) (t:TypeId) (k:Kd α) (B:α→Prop):Prop :=
  ∀ (H:Type) (enc:TypeId × Value→H) (w:World) (base:Nat) (spare:Nat→Bool) (held:Bool) (fuel:Nat) (cs:List Value) (x:DataW H × List MemPlace),
    DataW.trod enc P w base spare held fuel t cs=some x→(∀ n∈x.1.weights P t,n≤reachBytes)→∃ y,k.K w y cs∧B y
theorem bZJ {P:Program} {t:TypeId} {k:IntKind} (ht:P.underlying t=some (.int k)):dZU P t (Kd.int k) (InK k):=by
  intro H enc w base spare held fuel cs x h _
  cases fuel with
  | zero=>simp [DataW.trod] at h
  | succ n =>
    unfold DataW.trod at h
    rw [ht] at h
    split at h <;> simp_all
    obtain ⟨⟨h1,h2⟩,_⟩:=h
    subst h1
    exact ⟨_,rfl,h2⟩
theorem eZh {P:Program} {t:TypeId} (ht:P.underlying t=some .string):dZU P t Kd.string (fun s=>s.size≤140737488351232):=by
  intro H enc w base spare held fuel cs x h hw
  cases fuel with
  | zero=>simp [DataW.trod] at h
  | succ n =>
    unfold DataW.trod at h
    rw [ht] at h
    split at h <;> simp_all
    obtain ⟨_,h2⟩:=h
    subst h2
    rename_i s _
    refine ⟨s,rfl,?_⟩
    have:=hw s.data.toList.length (by simp [DataW.weights])
    rw [Array.length_toList] at this
    exact this
theorem add_add (a:Addr) (m j:Nat):(a.add m).add j=a.add (m+j):=by
 unfold Addr.add
 by_cases hm:m=0 <;> by_cases hj:j=0 <;> simp [hm,hj,Nat.add_assoc]
theorem list_of {α:Type} {Q:Nat→α→Prop}:∀ n,(∀ i,i<n→∃ y,Q i y)→∃ ys:List α,ys.length=n∧∀ i y,ys[i]?=some y→Q i y
 | 0,_=>⟨[],rfl,fun i y h=>by simp at h⟩
 | n+1,h=>by
  obtain ⟨ys,hl,hq⟩:=list_of n (fun i hi=>h i (by omega))
  obtain ⟨y,hy⟩:=h n (by omega)
  refine ⟨ys++[y],by simp [hl],fun i z hz=>?_⟩
  by_cases hi:i<n
  ·
   rw [List.getElem?_append_left (by omega)] at hz
   exact hq i z hz
  ·
   have:i=n:=by
    have:=(List.getElem?_eq_some_iff.1 hz).1
    simp at this
    omega
   subst this
   rw [List.getElem?_append_right (by omega),hl] at hz
   simp at hz
   subst hz
   exact hy
theorem dZt {H:Type} {P:Program} {e:TypeId}:∀ {ds:List (DataW H)} {i:Nat} {d:DataW H},ds[i]?=some d→∀ n∈d.weights P e,n∈DataW.weightsAll P e ds
  | d0 :: ds,0,d,hd,n,hn=>by
    simp only [List.getElem?_cons_zero,Option.some.injEq] at hd
    subst hd
    simp only [DataW.weightsAll,List.mem_append]
    exact Or.inl hn
  | d0 :: ds,i+1,d,hd,n,hn=>by
    simp only [List.getElem?_cons_succ] at hd
    simp only [DataW.weightsAll,List.mem_append]
    exact Or.inr (dZt hd n hn)
  | [],_,_,hd,_,_=>by simp at hd
theorem bZl {α:Type} {P:Program} {t e:TypeId} {k:Kd α} {B:α→Prop} {b:Nat} (ht:P.underlying t=some (.slice e)) (hsz:P.cellsOf e=k.sz) (hb:P.bytesOf e=b) (hk:dZU P e k B) :
 dZU P t (Kd.slice e k) (fun xs=>xs.length*b≤140737488351232∧∀ x∈xs,B x):=by
 intro H enc w base spare held fuel cs x h hw
 rcases DataW.trod_slice ht h with ⟨rfl,rfl⟩ | ⟨a,len,cap,elems,rest,n,rfl,rfl,rfl,hb1,hl,hm,hlen,hel,hsp,hns⟩
 ·
  refine ⟨[],⟨none,0,rfl,Nat.le_refl _,?_⟩,by simp,by simp⟩
  exact ⟨rfl,Nat.zero_le _,fun h0=>absurd h0 (by simp)⟩
 ·
  have each:∀ i,i<len→∃ y,∃ c:List Value,c.length=k.sz∧k.K w y c∧(∀ j u,c[j]?=some u→w.cell? (a.add (i*k.sz+j))=some u)∧B y:=by
   intro i hi
   obtain ⟨z,hz⟩:∃ z,elems[i]?=some z:=⟨elems[i]'(by omega),List.getElem?_eq_getElem (by omega)⟩
   have h1:=(hel i hi).trans hz
   rw [Option.bind_eq_some_iff] at h1
   obtain ⟨c,hc,ht'⟩:=h1
   obtain ⟨y, hy, hB⟩ := hk H enc w base spare held n c z ht' (fun m hm' => hw m (by
    simp only [DataW.weights,ht,List.mem_cons,List.mem_append]
    exact Or.inr (Or.inl (dZt (i:=i) (by simp [hz]) m hm'))))
   refine ⟨y,c,k.K_len hy,hy,?_,hB⟩
   intro j u hu
   have hs:=World.cells?_some hc
   have hjl:j<P.cellsOf e:=by
    have:=(List.getElem?_eq_some_iff.1 hu).1
    rw [k.K_len hy] at this
    rw [hsz];exact this
   have:=hs.2.2 j hjl
   rw [hu] at this
   rw [←this,←hsz,add_add]
  obtain ⟨ys,hyl,hys⟩:=list_of len each
  have hlm:len≤9223372036854775807:=by have:=Nat.le_trans hl hm;simpa [maxLen] using this
  refine ⟨ys,⟨some a,cap,by rw [hyl],by omega,?_⟩,?_,?_⟩
  ·
   rw [hyl]
   refine ⟨hyl,hlm,fun _=>⟨a,rfl,fun j p hp=>?_⟩⟩
   obtain ⟨c,h1,h2,h3,_⟩:=hys j p hp
   exact ⟨c,h1,h2,h3⟩
  ·
   have:=hw ((elems.length+rest.length)*P.bytesOf e) (by simp [DataW.weights,ht])
   rw [hb] at this
   have h2:ys.length*b≤(elems.length+rest.length)*b:=Nat.mul_le_mul_right _ (by omega)
   exact Nat.le_trans h2 this
  ·
   intro y hy
   obtain ⟨i,hi⟩:=List.getElem?_of_mem hy
   obtain ⟨c,_,_,_,h4⟩:=hys i y hi
   exact h4
def hZQ {α:Type} (P:Program) (fs:List Field) (off:Nat) (k:Kd α) (B:α→Prop):Prop :=
  ∀ (H:Type) (enc:TypeId × Value→H) (w:World) (base:Nat) (spare:Nat→Bool) (held:Bool) (fuel:Nat) (cs:List Value) (xs:List (DataW H × List MemPlace)),
    xs.length=fs.length→(∀ (i:Nat) (f:Field),fs[i]?=some f→DataW.trod enc P w base spare held fuel f.type ((cs.drop f.offset).take (P.cellsOf f.type))=xs[i]?) →
    (∀ n∈DataW.weightsEach P (fs.map (·.type)) (xs.map (·.1)),n≤reachBytes)→cs.length=off+k.sz→∃ y,k.K w y (cs.drop off)∧B y
theorem fZk {α:Type} {P:Program} {f:Field} {off:Nat} {k:Kd α} {B:α→Prop} (ho:f.offset=off) (hc:P.cellsOf f.type=k.sz) (hk:dZU P f.type k B):hZQ P [f] off k B:=by
  intro H enc w base spare held fuel cs xs hl hx hw hcs
  obtain ⟨x,rfl⟩:∃ x,xs=[x]:=by
    match xs,hl with
    | [x],_=>exact ⟨x,rfl⟩
  have h:=hx 0 f rfl
  rw [ho,hc] at h
  have e:(cs.drop off).take k.sz=cs.drop off:=List.take_of_length_le (by rw [List.length_drop];omega)
  rw [e] at h
  exact hk H enc w base spare held fuel _ x h (fun n hn=>hw n (by simp only [List.map_cons,List.map_nil,DataW.weightsEach,List.mem_append];exact Or.inl hn))
theorem aZ9 {α β:Type} {P:Program} {f:Field} {fs:List Field} {off:Nat} {k:Kd α} {ks:Kd β} {B:α→Prop} {C:β→Prop} (ho:f.offset=off) (hc:P.cellsOf f.type=k.sz) (hk:dZU P f.type k B)
    (hks:hZQ P fs (off+k.sz) ks C):hZQ P (f :: fs) off (Kd.pair k ks) (fun p=>B p.1∧C p.2):=by
  intro H enc w base spare held fuel cs xs hl hx hw hcs
  obtain ⟨x,xs,rfl⟩:∃ x xs',xs=x :: xs':=by
    match xs,hl with
    | x :: xs',_=>exact ⟨x,xs',rfl⟩
  have hcs':cs.length=off+(k.sz+ks.sz):=hcs
  have h:=hx 0 f rfl
  rw [ho,hc] at h
  obtain ⟨y,hy,hB⟩:=hk H enc w base spare held fuel _ x h (fun n hn=>hw n (by simp only [List.map_cons,DataW.weightsEach,List.mem_append];exact Or.inl hn))
  obtain ⟨z,hz,hC⟩:=hks H enc w base spare held fuel cs xs (by simpa using hl) (fun i g hg=>hx (i+1) g hg) (fun n hn=>hw n (by simp only [List.map_cons,DataW.weightsEach,List.mem_append];exact Or.inr hn)) (by omega)
  refine ⟨(y,z),⟨_,_,?_,hy,hz⟩,hB,hC⟩
  rw [←List.drop_drop,List.take_append_drop]
theorem eZg {α:Type} {P:Program} {t:TypeId} {fs:Array Field} {k:Kd α} {B:α→Prop} (ht:P.underlying t=some (.struct fs)) (hc:P.cellsOf t=k.sz) (h:hZQ P fs.toList 0 k B):dZU P t k B:=by
  intro H enc w base spare held fuel cs x hx hw
  obtain ⟨xs,n,rfl,rfl,hl,hxl,hxs⟩:=DataW.trod_struct ht hx
  have:=h H enc w base spare held n cs xs (by simpa using hxl) (fun i f hf=>hxs i f (by simpa using hf)) (fun m hm=>hw m (by simpa [DataW.weights,ht] using hm)) (by rw [hl,hc];omega)
  simpa using this
theorem gZk {α β:Type} {P:Program} {t:TypeId} {d:Kd α} {f:β→α} {B:α→Prop} (g:α→β) (hg:∀ x,f (g x)=x) (h:dZU P t d B):dZU P t (Kd.iso d f) (fun y=>B (f y)):=by
  intro H enc w base spare held fuel cs x hx hw
  obtain ⟨y,hy,hB⟩:=h H enc w base spare held fuel cs x hx hw
  refine ⟨g y,?_,by show B (f (g y));rw [hg];exact hB⟩
  show d.K w (f (g y)) cs
  rw [hg];exact hy
theorem opened {H:Type} {enc:TypeId × Value→H} {α:Type} {P:Program} {t:TypeId} {k:Kd α} {B:α→Prop} (h:dZU P t k B) {w:World} {base:Nat} {spare:Nat→Bool} {held:Bool} {v:Value} {d:DataW H} {ps:List MemPlace} {ts:List TypeId} {ds:List (DataW H)} {j:Nat}
    (hsz:(DataW.weightsEach P ts ds).all (·≤reachBytes)=true) (ht:ts[j]?=some t) (hd:ds[j]?=some d) (hv:DataW.Trod enc P w base spare held t v d ps):∃ y,k.K w y v.cells.toList∧B y:=by
  obtain ⟨fuel,hf⟩:=hv
  exact h H enc w base spare held fuel _ _ hf (fun n hn => by
    have:=List.all_eq_true.1 hsz n (DataW.weights_mem_each ht hd n hn)
    simpa using this)
theorem fZ7 {α:Type} {e:Nat} {k:Kd α} {w:World} {y:List α} {a:Option Addr} {len cap:Nat} (h:(Kd.slice e k).K w y (Value.slice a len cap).cells.toList):len=y.length∧y.length≤cap∧k.C w a y.length y:=by
  obtain ⟨A,c,hcs,hl,hC⟩:=h
  simp [Value.cells] at hcs
  obtain ⟨rfl,rfl,rfl⟩:=hcs
  exact ⟨rfl,hl,hC⟩
theorem iZv {cs:Array Value} {l:List Value} (h:(Value.agg cs).cells.toList=l):cs=l.toArray:=by
  simp [Value.cells] at h
  subst h
  simp
end Go.Proofs.YtbnplhmmbnmagaaO
