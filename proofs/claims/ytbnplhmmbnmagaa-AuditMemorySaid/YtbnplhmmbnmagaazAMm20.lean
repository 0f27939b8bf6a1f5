/- The document's walk over all places, plain, and the audit's: the same answers. -/
import Derived.Test.YtbnplhmmbnmagaazAMm19
import Derived.Test.YtbnplhmmbnmagaazAMm4
set_option maxHeartbeats 4000000
set_option maxRecDepth 100000
set_option linter.all false
namespace Go.Proofs.Ytbnplhmmbnmagaa.D
open Go.RowKit Go.Proofs.YtbnplhmmbnmagaaW.PrintWords Go.Proofs.YtbnplhmmbnmagaaW.PrintLast Go.Proofs.YtbnplhmmbnmagaaW.PrintMore Go.Proofs.Ytbnplhmmbnmagaa.All
abbrev Pr:=List Int × List Int
def atP (after:List Pr) (q:Int):Pr:=after.getD q.toNat ([],[])
def dZN (after:List Pr):List Int→Pr→Option Pr
  | [],s=>some s
  | j :: l,s=>if s.1=(atP after j).1 then dZN after l (s.1,aZH s.2 (atP after j).2) else none
def dZp (loc:Int) (after:List Pr) (i:Nat):Pr:=if i=0 then ([],List.replicate loc.toNat 0) else after.getD (i - 1) ([],[])
def endR (dep:Int) (x:S66) (t:Except Int Pr):Except Int Pr :=
  match t with
  | .error e=>.error e
  | .ok t=>if dep<t.1.length then .error 216 else if x.f0=36∧0<t.1.length then .error 219 else .ok t
def cZ2 (into:List (List Int)) (x:S66) (i:Nat):List (List Int) :=
  if x.f0=33∨x.f0=34 then into.set x.f1.toNat (into.getD x.f1.toNat []++[(i:Int)]) else into
def refL (k:Wk):Nat→Nat→List Pr→List (List Int)→List Pr→Except (Int × Int) (List Pr)
  | 0,_,_,_,ahead=>.ok ahead
  | d+1,i,after,into,ahead =>
    if bZi k i≠0 then .error (i,bZi k i)
    else
      match dZN after (into.getD i []) (dZp k.loc after i) with
      | none=>.error (i,218)
      | some s =>
        match endR k.dep (aZi k.C i) (aZS (aZi k.C i) s.1 s.2) with
        | .error e=>.error (i,e)
        | .ok t=>refL k d (i+1) (after++[t]) (cZ2 into (aZi k.C i) i) (ahead++[s])
noncomputable def gZN (nT nN nS nM:Nat) (C:List S66) (dep loc:Int):Except (Int × Int) (List Pr) :=
  @ite _ (aZB nT nN nS nM C dep loc) (Classical.propDecidable _) (.error (-1,210)) (if C.length=0 then .error (0,219) else refL (K0 nT nN nS nM C dep loc) C.length 0 [] (List.replicate C.length []) [])
def dZQ (r:List Pr):Int:=r.foldl (fun m s=>max m (s.1.length:Int)) 0
theorem fZp (r:List Pr) (s:Pr):dZQ (r++[s])=max (dZQ r) (s.1.length:Int):=by unfold dZQ;rw [List.foldl_append];rfl
def fZS (x y:Int):Int:=if x=y then x else 0
theorem dZi (a b:List Int):aZH a b=List.zipWith fZS a b:=rfl
theorem gZ1 (a b:List Int):aZH a b=aZH b a:=by
  rw [dZi,dZi,List.zipWith_comm]
  congr 1
  funext x y
  unfold fZS
  split <;> split <;> omega
theorem mergeL_assoc:∀ (a b c:List Int),aZH (aZH a b) c=aZH a (aZH b c)
  | [],_,_=>rfl
  | _ :: _,[],_=>rfl
  | _ :: _,_ :: _,[]=>rfl
  | x :: a,y :: b,z :: c=>by
    have ih:=mergeL_assoc a b c
    simp only [dZi,List.zipWith_cons_cons] at ih ⊢
    rw [ih]
    congr 1
    unfold fZS
    repeat' split
    all_goals omega
theorem foldl_merge:∀ (l:List (List Int)) (s a:List Int),l.foldl aZH (aZH s a)=aZH (l.foldl aZH a) s
  | [],s,a=>gZ1 s a
  | b :: l,s,a=>by
    rw [List.foldl_cons,List.foldl_cons,mergeL_assoc]
    exact foldl_merge l s (aZH a b)
def stA (after:List Pr) (q:Int):St:=⟨(atP after q).1,(atP after q).2,false⟩
def fZU (after:List Pr):List Int→Option St
  | []=>none
  | j :: l=>some (l.foldl (fun o q=>aZF o (stA after q)) (stA after j))
theorem iZd (after:List Pr) (l:List Int) (q:Int):fZU after (l++[q])=some (match fZU after l with|none=>stA after q|some o=>aZF o (stA after q)):=by
  cases l with
  | nil=>rfl
  | cons j l=>simp only [List.cons_append,fZU,List.foldl_append,List.foldl_cons,List.foldl_nil]
theorem atP_ext (after:List Pr) (t:Pr) (q:Int) (h:q.toNat<after.length):atP (after++[t]) q=atP after q:=by
  unfold atP
  rw [List.getD_eq_getElem?_getD,List.getD_eq_getElem?_getD,List.getElem?_append_left h]
theorem gZz {after:List Pr} {t:Pr}:∀ (l:List Int) (o:St),(∀ q∈l,q.toNat<after.length)→l.foldl (fun o q=>aZF o (stA (after++[t]) q)) o=l.foldl (fun o q=>aZF o (stA after q)) o
  | [],_,_=>rfl
  | q :: l,o,h=>by
    rw [List.foldl_cons,List.foldl_cons]
    have:stA (after++[t]) q=stA after q:=by unfold stA;rw [atP_ext after t q (h q (List.mem_cons_self ..))]
    rw [this]
    exact gZz l _ (fun q hq=>h q (List.mem_cons_of_mem _ hq))
theorem foldO_ext {after:List Pr} {t:Pr} (l:List Int) (h:∀ q∈l,q.toNat<after.length):fZU (after++[t]) l=fZU after l:=by
  cases l with
  | nil=>rfl
  | cons j l =>
    have:stA (after++[t]) j=stA after j:=by unfold stA;rw [atP_ext after t j (h j (List.mem_cons_self ..))]
    simp only [fZU,this]
    rw [gZz l _ (fun q hq=>h q (List.mem_cons_of_mem _ hq))]
theorem gZA (after:List Pr):∀ (l:List Int) (o:St),(l.foldl (fun o q=>aZF o (stA after q)) o).stk=o.stk∧(l.foldl (fun o q=>aZF o (stA after q)) o).loc=(l.map fun q=>(atP after q).2).foldl aZH o.loc∧((l.foldl (fun o q=>aZF o (stA after q)) o).joined=false↔o.joined=false∧∀ q∈l,(atP after q).1=o.stk)
  | [],o=>⟨rfl,rfl,by simp⟩
  | q :: l,o=>by
    obtain ⟨h1,h2,h3⟩:=gZA after l (aZF o (stA after q))
    rw [List.foldl_cons]
    refine ⟨h1,h2,h3.trans ?_⟩
    have e1:(aZF o (stA after q)).stk=o.stk:=rfl
    have e2:(aZF o (stA after q)).joined=(o.joined || !decide (o.stk=(atP after q).1)):=rfl
    rw [e1,e2]
    constructor
    · rintro ⟨g1,g2⟩
      simp at g1
      exact ⟨g1.1,fun z hz=>by rcases List.mem_cons.1 hz with rfl|hz;exact g1.2.symm;exact g2 z hz⟩
    · rintro ⟨g1,g2⟩
      exact ⟨by simp [g1,(g2 q (List.mem_cons_self ..)).symm],fun z hz=>g2 z (List.mem_cons_of_mem _ hz)⟩
theorem gZs (after:List Pr):∀ (l:List Int) (s:Pr),(∀ q∈l,(atP after q).1=s.1)→dZN after l s=some (s.1,(l.map fun q=>(atP after q).2).foldl aZH s.2)
  | [],s,_=>rfl
  | q :: l,s,h=>by
    rw [dZN,if_pos (h q (List.mem_cons_self ..)).symm]
    exact gZs after l (s.1,aZH s.2 (atP after q).2) (fun z hz=>h z (List.mem_cons_of_mem _ hz))
theorem hZE (after:List Pr):∀ (l:List Int) (s:Pr),(¬ ∀ q∈l,(atP after q).1=s.1)→dZN after l s=none
  | [],s,h=>absurd (by simp) h
  | q :: l,s,h=>by
    rw [dZN]
    split
    · rename_i he
      refine hZE after l (s.1,aZH s.2 (atP after q).2) (fun g=>h (fun z hz=>?_))
      rcases List.mem_cons.1 hz with rfl|hz
      · exact he.symm
      · exact g z hz
    · rfl
theorem gZ4 (after:List Pr) (l:List Int) (s:Pr) (M:List (Int × St)) (i:Int) (h:look M i=fZU after l) :
 ((aZI M i ⟨s.1,s.2,false⟩).joined=true→dZN after l s=none)∧((aZI M i ⟨s.1,s.2,false⟩).joined=false→dZN after l s=some ((aZI M i ⟨s.1,s.2,false⟩).stk,(aZI M i ⟨s.1,s.2,false⟩).loc)):=by
 cases l with
 | nil=>rw [bZZ h];exact ⟨fun h=>(by cases h),fun _=>rfl⟩
 | cons j l =>
  rw [bZB h]
  obtain ⟨h1,h2,h3⟩:=gZA after l (stA after j)
  generalize l.foldl (fun o q=>aZF o (stA after q)) (stA after j)=o at h1 h2 h3
  have e1:(aZF o ⟨s.1,s.2,false⟩).joined=(o.joined || !decide (o.stk=s.1)):=rfl
  have e2:(aZF o ⟨s.1,s.2,false⟩).stk=o.stk:=rfl
  have e3:(aZF o ⟨s.1,s.2,false⟩).loc=aZH o.loc s.2:=rfl
  rw [e1,e2,e3]
  have hall:(o.joined || !decide (o.stk=s.1))=false↔∀ q∈j :: l,(atP after q).1=s.1:=by
   rw [Bool.or_eq_false_iff,h3]
   constructor
   ·
    rintro ⟨⟨-,g⟩,g2⟩
    have g2:o.stk=s.1:=by simpa using g2
    intro z hz
    rcases List.mem_cons.1 hz with rfl|hz
    · rw [←g2,h1];rfl
    · rw [g z hz,←h1,g2]
   ·
    intro g
    have gj:=g j (List.mem_cons_self ..)
    have g1:o.stk=s.1:=by rw [h1];exact gj
    exact ⟨⟨rfl,fun z hz=>(g z (List.mem_cons_of_mem _ hz)).trans gj.symm⟩,by simp [g1]⟩
  constructor
  ·
   intro hj
   exact hZE after _ _ (fun g=>by rw [hall.2 g] at hj;cases hj)
  ·
   intro hj
   have g:=hall.1 hj
   rw [gZs after _ _ g,h1,h2]
   have gj:=g j (List.mem_cons_self ..)
   rw [List.map_cons,List.foldl_cons,foldl_merge,←gj]
   rfl
def eZ0 (L:Nat) (a:Pr):Prop:=a.2.length=L∧∀ c∈a.2,0≤c
theorem fZl {L:Nat} {a b:List Int} (ha:a.length=L∧∀ c∈a,0≤c) (hb:b.length=L):(aZH a b).length=L∧∀ c∈aZH a b,0≤c:=by
 refine ⟨by rw [aZY a b (by omega)];exact ha.1,?_⟩
 intro c hc
 rw [dZi] at hc
 obtain ⟨n,hn,he⟩:=List.getElem_of_mem hc
 rw [List.getElem_zipWith] at he
 rw [←he]
 unfold fZS
 split
 · exact ha.2 _ (List.getElem_mem _)
 · exact Int.le_refl _
theorem gZr {L:Nat} (after:List Pr):∀ (l:List Int) (s s':Pr),(∀ q∈l,(atP after q).2.length=L)→eZ0 L s→dZN after l s=some s'→eZ0 L s'
  | [],s,s',_,hs,h=>by injection h with h;subst h;exact hs
  | q :: l,s,s',hl,hs,h=>by
    rw [dZN] at h
    split at h
    · exact gZr after l (s.1,aZH s.2 (atP after q).2) s' (fun z hz=>hl z (List.mem_cons_of_mem _ hz)) (fZl hs (hl q (List.mem_cons_self ..))) h
    · cases h
theorem getD_good {L:Nat} {loc:List Int} (h:∀ c∈loc,(0:Int)≤c) (n:Nat):0≤loc.getD n 0:=by
  rw [List.getD_eq_getElem?_getD]
  cases he:loc[n]? with
  | none=>exact Int.le_refl _
  | some c=>exact h c (List.mem_of_getElem? he)
theorem eZX {L:Nat} {x:S66} {stk loc:List Int} {t:Pr} (hs:eZ0 L (stk,loc)) (h:aZS x stk loc=.ok t):eZ0 L t:=by
 unfold aZS at h
 split at h
 ·
  split at h
  · cases h
  ·
   rename_i n p hf
   injection h with h
   subst h
   refine ⟨?_,?_⟩
   ·
    show (if x.f0=31 then loc.set x.f1.toNat (stk.getD (stk.length - 1) 0) else loc).length=L
    split
    · rw [List.length_set];exact hs.1
    · exact hs.1
   ·
    show ∀ c∈(if x.f0=31 then loc.set x.f1.toNat (stk.getD (stk.length - 1) 0) else loc),0≤c
    split
    ·
     rename_i h31
     intro c hc
     rcases List.mem_or_eq_of_mem_set hc with hc|hc
     · exact hs.2 c hc
     ·
      unfold dZb at hf
      rw [if_neg (by omega),if_neg (by omega)] at hf
      split at hf
      · cases hf
      ·
       rw [if_neg (by omega)] at hf
       split at hf
       · cases hf
       ·
        rename_i hq
        have hq:=Classical.not_not.1 hq
        omega
    · exact hs.2
 ·
  split at h
  · cases h
  ·
   split at h
   · cases h
   ·
    injection h with h
    subst h
    exact hs
theorem end_good {dep:Int} {x:S66} {r:Except Int Pr} {t:Pr} (h:endR dep x r=.ok t):r=.ok t∧(t.1.length:Int)≤dep:=by
 unfold endR at h
 split at h
 · cases h
 ·
  split at h
  · cases h
  ·
   split at h
   · cases h
   ·
    injection h with h
    subst h
    exact ⟨rfl,by omega⟩
theorem endF_endR (dep:Int) (x:S66) (j:Bool) (r:Except Int Pr):endF dep x j r=match endR dep x r with | .error e=>.error e | .ok t=>.ok ⟨t.1,t.2,j⟩:=by
 unfold endF endR
 split
 · rfl
 ·
  dsimp only
  split
  · rfl
  ·
   split
   · rfl
   · rfl
theorem gZy {k:Wk} {i:Nat} (h:bZi k i=0) (hj:(aZi k.C i).f0=33∨(aZi k.C i).f0=34):(i:Int)<(aZi k.C i).f1∧(aZi k.C i).f1<k.C.length:=by
 unfold bZi at h
 split at h
 · omega
 ·
  split at h
  · omega
  ·
   unfold cZ1 at h
   split at h
   · omega
   ·
    rename_i hn
    exact ⟨by
     by_cases hq:(aZi k.C i).f1≤i
     · exact absurd ⟨hj,.inl hq⟩ hn
     ·
      omega,by
     by_cases hq:(k.C.length:Int)≤(aZi k.C i).f1
     · exact absurd ⟨hj,.inr hq⟩ hn
     · omega⟩
theorem cZW {α:Type} (l:List α) (n:Nat) (v z:α) (h:n<l.length):(l.set n v).getD n z=v:=by
  rw [List.getD_eq_getElem?_getD,List.getElem?_set_self h];rfl
theorem getD_set_ne {α:Type} (l:List α) (n m:Nat) (v z:α) (h:n≠m):(l.set n v).getD m z=l.getD m z:=by
  rw [List.getD_eq_getElem?_getD,List.getElem?_set_ne h,←List.getD_eq_getElem?_getD]
theorem gZS (k:Wk) (hk:0≤k.loc):∀ (d i:Nat) (M:List (Int × St)) (told:List (List Int)) (most:Int) (after:List Pr) (into:List (List Int)) (ahead:List Pr),
 i+d=k.C.length→after.length=i→into.length=k.C.length →
 (∀ t:Nat,i≤t→t<k.C.length→look M t=fZU after (into.getD t []))→(∀ t:Nat,∀ q∈into.getD t [],q.toNat<i)→(∀ a∈after,eZ0 k.loc.toNat a)→told=ahead.map Prod.fst→most=dZQ ahead →
 (match runL k d i ⟨(dZp k.loc after i).1, (dZp k.loc after i).2, false⟩ M told most with
 | .error e=>refL k d i after into ahead=.error e
 | .ok (t,m)=>∃ r,refL k d i after into ahead=.ok r∧t=r.map Prod.fst∧m=dZQ r)
 | 0,i,M,told,most,after,into,ahead,hi,ha,hin,hM,hq,hg,ht,hm=>⟨ahead,rfl,ht,hm⟩
 | d+1,i,M,told,most,after,into,ahead,hi,ha,hin,hM,hq,hg,ht,hm=>by
  rw [runL,refL]
  by_cases hf:bZi k i≠0
  · rw [if_pos hf,if_pos hf]
  rw [if_neg hf,if_neg hf]
  have hf:=Classical.not_not.1 hf
  obtain ⟨f1,f2,f3,f4⟩:=dZO hf
  have hop:=form_oper hf
  have hfrom:eZ0 k.loc.toNat (dZp k.loc after i):=by
   unfold dZp
   split
   · exact ⟨by simp,by intro c hc;rw [List.eq_of_mem_replicate hc];exact Int.le_refl _⟩
   ·
    rename_i h0
    have hlt:i - 1<after.length:=by omega
    rw [List.getD_eq_getElem?_getD,List.getElem?_eq_getElem hlt]
    exact hg _ (List.getElem_mem _)
  have hat:∀ q:Int,q.toNat<i→eZ0 k.loc.toNat (atP after q):=fun q hq=>by
   unfold atP
   rw [List.getD_eq_getElem?_getD,List.getElem?_eq_getElem (by omega)]
   exact hg _ (List.getElem_mem _)
  generalize dZp k.loc after i=s0 at hfrom ⊢
  obtain ⟨j1,j2⟩:=gZ4 after (into.getD i []) s0 M i (hM i (Nat.le_refl _) (by omega))
  cases hj:(aZI M i ⟨s0.1,s0.2,false⟩).joined with
  | true=>rw [if_pos rfl,j1 hj]
  | false =>
   have hjo:=j2 hj
   rw [if_neg (by decide),hjo]
   have hgood:=gZr after _ _ _ (fun q hq'=>(hat q (hq i q hq')).1) hfrom hjo
   generalize aZI M i ⟨s0.1,s0.2,false⟩=a at hj hgood ⊢
   dsimp only
   have hu:bt (aZg rowsL (aZi k.C i).f0).f0 0=117→(aZi k.C i).f1=0∨(aZi k.C i).f1=1:=fun hb=>by
    rw [hb] at hop
    simpa [bZk] using hop
   have hs:aZ2 k.dep (aZg rowsL (aZi k.C i).f0) (aZi k.C i) a=match endR k.dep (aZi k.C i) (aZS (aZi k.C i) a.stk a.loc) with | .error e=>.error e | .ok t=>.ok ⟨t.1,t.2,false⟩:=by
    rw [step_core,hZg _ _ _ f1 f2 hu (getD_good (L:=0) hgood.2 _),endF_endR,hj]
   rw [hs]
   cases he:endR k.dep (aZi k.C i) (aZS (aZi k.C i) a.stk a.loc) with
   | error e=>rfl
   | ok t =>
    dsimp only
    have hgt:=eZX hgood (end_good he).1
    have hfr:dZp k.loc (after++[t]) (i+1)=t:=by
     unfold dZp
     rw [if_neg (by omega),List.getD_eq_getElem?_getD,List.getElem?_append_right (by omega)]
     simp [ha]
    have hat':atP (after++[t]) (i:Int)=t:=by
     unfold atP
     rw [List.getD_eq_getElem?_getD,List.getElem?_append_right (by omega)]
     simp [ha]
    have hg2:∀ b∈after++[t],eZ0 k.loc.toNat b:=fun b hb=>by
     rcases List.mem_append.1 hb with hb|hb
     · exact hg b hb
     · rw [List.mem_singleton.1 hb];exact hgt
    have ht2:told++[a.stk]=(ahead++[(a.stk,a.loc)]).map Prod.fst:=by rw [ht];simp
    have hm2:max most (a.stk.length:Int)=dZQ (ahead++[(a.stk,a.loc)]):=by rw [fZp,hm]
    have hold:∀ t':Nat,i+1≤t'→t'<k.C.length→look (del M i) t'=fZU (after++[t]) (into.getD t' []):=fun t' h1 h2=>by
     rw [cZU _ _ (by omega),hM t' (by omega) h2,foldO_ext _ (fun q hq'=>by rw [ha];exact hq t' q hq')]
    by_cases h33:(aZi k.C i).f0=33∨(aZi k.C i).f0=34
    ·
     obtain ⟨g1,g2⟩:=gZy hf h33
     rw [if_pos h33]
     have hset:cZ2 into (aZi k.C i) i=into.set (aZi k.C i).f1.toNat (into.getD (aZi k.C i).f1.toNat []++[(i:Int)]):=by unfold cZ2;rw [if_pos h33]
     rw [hset]
     generalize hT:(aZi k.C i).f1=T at g1 g2 ⊢
     have hTn:T=((T.toNat:Nat):Int):=by omega
     have ih:=gZS k hk d (i+1) (dZy (del M i) T ⟨t.1,t.2,false⟩) (told++[a.stk]) (max most (a.stk.length:Int)) (after++[t]) (into.set T.toNat (into.getD T.toNat []++[(i:Int)])) (ahead++[(a.stk,a.loc)]) (by omega) (by simp [ha]) (by simp [hin]) ?_ ?_ hg2 ht2 hm2
     ·
      rw [hfr] at ih
      exact ih
     ·
      intro t' h1 h2
      by_cases hte:T.toNat=t'
      ·
       subst hte
       rw [cZW _ _ _ _ (by omega),iZd,←hold _ h1 h2,←hTn]
       have hst:stA (after++[t]) (i:Int)=⟨t.1,t.2,false⟩:=by unfold stA;rw [hat']
       rw [hst]
       unfold dZy
       cases hl:look (del M i) T with
       | none =>
        dsimp only
        rw [cZk,hl]
        simp
       | some o =>
        dsimp only
        exact cZa _ _ _ (by rw [hl];simp)
      ·
       rw [getD_set_ne _ _ _ _ _ hte,←hold t' h1 h2]
       unfold dZy
       cases hl:look (del M i) T with
       | none =>
        dsimp only
        rw [cZk]
        cases look (del M i) (t':Int) with
        | none=>dsimp only;rw [if_neg (by omega)]
        | some _=>rfl
       | some o =>
        dsimp only
        exact dZx _ _ _ (by omega) _
     ·
      intro t' q hq'
      by_cases hte:T.toNat=t'
      ·
       subst hte
       rw [cZW _ _ _ _ (by omega)] at hq'
       rcases List.mem_append.1 hq' with hq'|hq'
       · have:=hq _ q hq';omega
       · rw [List.mem_singleton.1 hq'];omega
      ·
       rw [getD_set_ne _ _ _ _ _ hte] at hq'
       have:=hq t' q hq';omega
    ·
     rw [if_neg h33]
     have hset:cZ2 into (aZi k.C i) i=into:=by unfold cZ2;rw [if_neg h33]
     rw [hset]
     by_cases h36:(aZi k.C i).f0=36
     ·
      rw [if_pos h36]
      have hd0:d=0:=by have:=f4.1 h36;omega
      subst hd0
      rw [refL]
      exact ⟨_,rfl,ht2,hm2⟩
     ·
      rw [if_neg h36]
      have ih:=gZS k hk d (i+1) (del M i) (told++[a.stk]) (max most (a.stk.length:Int)) (after++[t]) into (ahead++[(a.stk,a.loc)]) (by omega) (by simp [ha]) hin hold (fun t' q hq'=>by have:=hq t' q hq';omega) hg2 ht2 hm2
      rw [hfr] at ih
      exact ih
theorem hZS (nT nN nS nM:Nat) (C:List S66) (dep loc:Int) :
 match aZT nT nN nS nM C dep loc with
 | .error e=>gZN nT nN nS nM C dep loc=.error e
 | .ok (t,m)=>∃ r,gZN nT nN nS nM C dep loc=.ok r∧t=r.map Prod.fst∧m=dZQ r:=by
 unfold aZT gZN
 by_cases hd:aZB nT nN nS nM C dep loc
 · rw [if_pos hd,if_pos hd]
 ·
  rw [if_neg hd,if_neg hd]
  by_cases hc:C.length=0
  · rw [if_pos hc,if_pos hc]
  ·
   rw [if_neg hc,if_neg hc]
   have hl:0≤loc:=by
    by_cases h:loc<0
    · exact absurd (.inr (.inr (.inr (.inl h)))) hd
    · omega
   exact gZS (K0 nT nN nS nM C dep loc) hl C.length 0 [] [] 0 [] (List.replicate C.length []) [] (by show 0 + C.length = C.length; omega) rfl (by show _ = C.length; simp) (fun t _ ht => by
    have:(List.replicate C.length ([]:List Int)).getD t []=[]:=by rw [List.getD_eq_getElem?_getD,List.getElem?_replicate];split <;> rfl
    rw [this]; rfl) (fun t q hq => by
    have:(List.replicate C.length ([]:List Int)).getD t []=[]:=by rw [List.getD_eq_getElem?_getD,List.getElem?_replicate];split <;> rfl
    rw [this] at hq;cases hq) (by simp) rfl rfl
theorem hZV (a b:List Int) (hl:a.length=b.length) (hn:a.length≤1000000):∀ (d i k:Nat),i+d=a.length→d<k→(∀ j,j<i→a.getD j 0=b.getD j 0)→berthref21_sameInts.l0 k a b i=some (decide (a=b)):=by
 intro d
 induction d with
 | zero =>
  intro i k h1 h2 h3
  obtain ⟨k,rfl⟩:∃ m,k=m+1:=⟨k - 1,by omega⟩
  unfold berthref21_sameInts.l0
  rw [if_neg (by omega)]
  have:a=b:=by
   refine List.ext_getElem hl (fun j hj hj2=>?_)
   have:=h3 j (by omega)
   simpa [List.getD_eq_getElem?_getD,hj,hj2] using this
  rw [decide_eq_true this]
 | succ d ih =>
  intro i k h1 h2 h3
  obtain ⟨k,rfl⟩:∃ m,k=m+1:=⟨k - 1,by omega⟩
  unfold berthref21_sameInts.l0
  rw [if_pos (by omega),if_pos (by omega),if_pos (by omega)]
  by_cases he:rd a i=rd b i
  ·
   rw [if_pos he,show wrap64 ((i:Int)+1)=((i+1:Nat):Int) by unfold wrap64;omega]
   refine ih (i+1) k (by omega) (by omega) (fun j hj=>?_)
   by_cases hji:j=i
   · subst hji;simpa [rd] using he
   · exact h3 j (by omega)
  ·
   rw [if_neg he]
   have:a≠b:=fun e=>he (by rw [e])
   rw [decide_eq_false this]
theorem dZY (a b:List Int) (hn:a.length≤1000000):∀ k,a.length<k→berthref21_sameInts.f k a b=some (decide (a=b)):=by
 intro k hk
 unfold berthref21_sameInts.f
 by_cases hl:a.length=b.length
 ·
  rw [if_pos (by omega)]
  exact hZV a b hl hn a.length 0 k (by omega) hk (fun j hj=>absurd hj (by omega))
 ·
  rw [if_neg (by omega)]
  rw [decide_eq_false (fun e=>hl (by rw [e]))]
theorem gZ0 (a:List Int):aZH a a=a:=by
  unfold aZH
  induction a with
  | nil=>rfl
  | cons x a ih=>rw [List.zipWith_cons_cons,ih,if_pos rfl]
def freeT (x:S66) (stk loc:List Int):Int × Int × Int :=
  match dZb x stk loc with
  | .error e=>(0,0,e)
  | .ok (n,p)=>((n:Nat),p,0)
theorem bit_f (a:Int):berthref21_bitmap.f a=some (decide (a=1∨a=2)):=by
 unfold berthref21_bitmap.f
 by_cases h1:a=1
 · rw [if_pos h1];simp [h1]
 ·
  rw [if_neg h1]
  by_cases h2:a=2 <;> simp [h1,h2]
def letR (w:Int):Int:=if w=0 then 45 else if w=1 then 117 else if w=2 then 116 else if w=3 then 115 else if w=4 then 110 else if w=5 then 109 else if w=6 then 108 else if w=7 then 106 else 99
theorem table:∀ i:_root_.Fin 37,0<i.1→(berthref21_Operands.f 8 (i.1:Int)).any (fun t=>decide (0≤t.1∧t.1≤8∧0≤t.2.1∧t.2.1≤8∧0≤t.2.2∧t.2.2≤8∧bt (rowsL.getD i.1 z165).f0 0=letR t.1∧bt (rowsL.getD i.1 z165).f0 1=letR t.2.1∧bt (rowsL.getD i.1 z165).f0 2=letR t.2.2∧(t.1=7↔(i.1=33∨i.1=34))))=true:=by decide +kernel
theorem opers_f (op:Int) (h0:1≤op) (h1:op≤36):∃ a b c,berthref21_Operands.f 8 op=some (a,b,c)∧0≤a∧a≤8∧0≤b∧b≤8∧0≤c∧c≤8∧bt (aZg rowsL op).f0 0=letR a∧bt (aZg rowsL op).f0 1=letR b∧bt (aZg rowsL op).f0 2=letR c∧(a=7↔(op=33∨op=34)):=by
  obtain ⟨n,rfl⟩:∃ n:Nat,op=n:=⟨op.toNat,by omega⟩
  have h:=table ⟨n,by omega⟩ (by show 0<n;omega)
  cases ho:berthref21_Operands.f 8 (n:Int) with
  | none=>rw [show ((⟨n,by omega⟩:_root_.Fin 37).1:Int)=n from rfl,ho] at h;cases h
  | some t =>
    rw [show ((⟨n,by omega⟩:_root_.Fin 37).1:Int)=n from rfl,ho] at h
    obtain ⟨a,b,c⟩:=t
    have h:=of_decide_eq_true h
    obtain ⟨g1,g2,g3,g4,g5,g6,g7,g8,g9,g10⟩:=h
    refine ⟨a,b,c,rfl,g1,g2,g3,g4,g5,g6,g7,g8,g9,g10.trans ?_⟩
    show n=33∨n=34↔_
    omega
theorem Drawn0.below_ {w w':World} (h:Drawn0 w w'):Below w.heap.size w w':=by
  obtain ⟨n,rfl⟩:=h
  exact aZb (Below.refl _ _) n
theorem cells2_ {W:World} {X t:Nat} {a b:Value} (h:W.heap[X]?=some (.cells #[a,b] t (0,0))):W.cell? ⟨X,0,none⟩=some a∧W.cell? ⟨X,1,none⟩=some b:=by simp [World.cell?,h]
theorem dZB {W:World} {X t:Nat} {a b c d:Value} (h:W.heap[X]?=some (.cells #[a,b,c,d] t (0,0))):W.cell? ⟨X,0,none⟩=some a∧W.cell? ⟨X,1,none⟩=some b∧W.cell? ⟨X,2,none⟩=some c∧W.cell? ⟨X,3,none⟩=some d:=by simp [World.cell?,h]
theorem boxes2_ (w:World) (a b:Obj):((w.alloc a).alloc b).heap[w.heap.size]?=some a∧((w.alloc a).alloc b).heap[w.heap.size+1]?=some b∧Below w.heap.size w ((w.alloc a).alloc b):=by
 refine ⟨?_,?_,aZa (aZa (Below.refl _ _) _) _⟩
 · rw [heap_alloc_old _ _ (by simp)];exact heap_alloc_new w _
 · have:=heap_alloc_new (w.alloc a) b;simpa using this
theorem free_any (w:World) (x:S66) (A1 A2:Option Addr) (c1 c2:Nat) (stk loc:List Int) (hs:Kd.C (Kd.int .i64) w A1 stk.length stk) (hl:Kd.C (Kd.int .i64) w A2 loc.length loc)
 (h0:27≤x.f0) (h1:x.f0≤35) (h2:x.f0=32→0≤x.f1∧x.f1<loc.length) (hn:stk.length≤1000000) :
 Calls Try.prog 98 #[.agg #[.int .i64 x.f0,.int .i64 x.f1,.int .i64 x.f2,.int .i64 x.f3],.agg #[.slice A1 stk.length c1,.slice A2 loc.length c2]] w fun e w'=>e=.returned (.tuple #[.int .i64 (freeT x stk loc).1,.int .i64 (freeT x stk loc).2.1,.int .i64 (freeT x stk loc).2.2])∧Below w.heap.size w w':=by
 obtain ⟨p0,p1,p2⟩:=boxes2_ w (.cells #[.int .i64 x.f0,.int .i64 x.f1,.int .i64 x.f2,.int .i64 x.f3] 66) (.cells #[.slice A1 stk.length c1,.slice A2 loc.length c2] 94)
 go_enter Try.func98,Try.ntmps98
 go_upto_region 1 with (fail)
 generalize (w.alloc (.cells #[.int .i64 x.f0,.int .i64 x.f1,.int .i64 x.f2,.int .i64 x.f3] 66)).alloc (.cells #[.slice A1 stk.length c1,.slice A2 loc.length c2] 94)=W at p0 p1 p2 ⊢
 have hs1:=Kd.C_below hs p2
 have hl1:=Kd.C_below hl p2
 generalize w.heap.size+1=b1 at p1 ⊢
 obtain ⟨x0,x1,x2,x3⟩:=dZB p0
 obtain ⟨z0,z1⟩:=cells2_ p1
 have HB:=hid_ p2
 clear p0 p1 p2 hs hl
 have htop:∀ i:Nat,i<stk.length→∃ ad,A1=some ad∧W.cell? (ad.add i)=some (.int .i64 (stk.getD i 0)):=fun i h=>by
  obtain ⟨ad,ha,hc⟩:=Kd.at_int hs1 (i:Int) (by omega) (by omega)
  rw [Int.toNat_natCast] at hc
  exact ⟨ad,ha,by rw [hc];simp [rd]⟩
 have hloc:0≤x.f1→x.f1<loc.length→∃ ad,A2=some ad∧W.cell? (ad.add x.f1.toNat)=some (.int .i64 (loc.getD x.f1.toNat 0)):=fun h h'=>by
  obtain ⟨ad,ha,hc⟩:=Kd.at_int hl1 x.f1 h h'
  exact ⟨ad,ha,by rw [hc];simp [rd]⟩
 clear hs1 hl1
 have e1:1≤stk.length→IntKind.i64.wrap ((stk.length:Int) - 1)=((stk.length - 1:Nat):Int)∧wrap64 ((stk.length:Int) - 1)=((stk.length - 1:Nat):Int):=fun h=>⟨by rw [show (stk.length:Int) - 1=((stk.length - 1:Nat):Int) by omega];exact IntWalk.i64_in _ ⟨by omega,by omega⟩,by unfold wrap64;omega⟩
 have e2:2≤stk.length→IntKind.i64.wrap ((stk.length:Int) - 2)=((stk.length - 2:Nat):Int)∧wrap64 ((stk.length:Int) - 2)=((stk.length - 2:Nat):Int):=fun h=>⟨by rw [show (stk.length:Int) - 2=((stk.length - 2:Nat):Int) by omega];exact IntWalk.i64_in _ ⟨by omega,by omega⟩,by unfold wrap64;omega⟩
 have HD:=hid_ (Below.refl W.heap.size W)
 have hA:(x.f0=27∨x.f0=28∨x.f0=29)∨(x.f0=30∨x.f0=33∨x.f0=34)∨x.f0=31∨x.f0=35∨x.f0=32:=by omega
 rcases hA with hA|hA
 ·
  have hft:freeT x stk loc=if stk.length<2 then (0,0,214) else if ¬(stk.getD (stk.length - 1) 0=1∨stk.getD (stk.length - 1) 0=2)∨stk.getD (stk.length - 2) 0≠stk.getD (stk.length - 1) 0 then (0,0,215) else (2,stk.getD (stk.length - 1) 0,0):=by
   unfold freeT dZb;rw [if_pos hA]
   by_cases a:stk.length<2
   · rw [if_pos a,if_pos a]
   ·
    rw [if_neg a,if_neg a]
    by_cases b:¬(stk.getD (stk.length - 1) 0=1∨stk.getD (stk.length - 1) 0=2)∨stk.getD (stk.length - 2) 0≠stk.getD (stk.length - 1) 0
    · rw [if_pos b,if_pos b]
    · rw [if_neg b,if_neg b];rfl
  by_cases hlt:stk.length<2
  ·
   have q0:(stk.length:Int)<2:=by omega
   rw [if_pos hlt] at hft
   have HF:=hid_ hft
   clear hft e1 e2 htop hloc
   rcases hA with e|e|e <;> (rw [e] at x0;clear e;go_wp2_with (fail);go_ret3;rw [HF.out];exact ⟨rfl,HB.out⟩)
  ·
   have q0:¬(stk.length:Int)<2:=by omega
   rw [if_neg hlt] at hft
   obtain ⟨ad,rfl,y0⟩:=htop (stk.length - 1) (by omega)
   obtain ⟨ad2,he2,y1⟩:=htop (stk.length - 2) (by omega)
   obtain rfl:=Option.some.inj he2
   obtain ⟨w1,w2⟩:=e1 (by omega)
   obtain ⟨w3,w4⟩:=e2 (by omega)
   generalize stk.getD (stk.length - 1) 0=top at hft y0
   generalize stk.getD (stk.length - 2) 0=top2 at hft y1
   have i0:(0:Int)≤((stk.length - 1:Nat):Int):=by omega
   have i1:((stk.length - 1:Nat):Int)<(stk.length:Int):=by omega
   have i2:(0:Int)≤((stk.length - 2:Nat):Int):=by omega
   have i3:((stk.length - 2:Nat):Int)<(stk.length:Int):=by omega
   have HFT:=hid_ hft
   have HY:=hid_ (And.intro y0 y1)
   clear hft e1 e2 htop hloc hlt he2
   rcases hA with e | e | e <;> (
    rw [e] at x0
    clear e
    go_wp2_with (fail)
    refine (show Calls _ _ _ _ _ from berthref21_bitmap.calls top _ W (bit_f top)).mono ?_
    rintro e w2 ⟨rfl,hdw⟩
    have hb2:=Drawn0.below_ hdw
    have HD2:=hid_ (HB.out.trans (hb2.mono HB.out.size))
    replace x0:=aZe hb2 x0
    replace z0:=aZe hb2 z0
    replace y0:=aZe hb2 HY.out.1
    replace y1:=aZe hb2 HY.out.2
    clear hdw hb2 x1 x2 x3 z1
    by_cases hb:top=1∨top=2
    ·
     rw [decide_eq_true hb]
     by_cases hq:top2=top
     ·
      have HF:=hid_ (show freeT x stk loc=(2,top,0) by rw [HFT.out,if_neg (fun h=>h.elim (fun h=>h hb) (fun h=>h hq))])
      have b1:(top2 == top)=true:=beq_iff_eq.2 hq
      clear hb hq
      go_wp2_with (fail)
      go_ret3
      rw [HF.out]
      exact ⟨rfl,HD2.out⟩
     ·
      have HF:=hid_ (show freeT x stk loc=(0,0,215) by rw [HFT.out,if_pos (.inr hq)])
      have b1:(top2 == top)=false:=beq_eq_false_iff_ne.2 hq
      clear hb hq
      go_wp2_with (fail)
      go_ret3
      rw [HF.out]
      exact ⟨rfl,HD2.out⟩
    ·
     rw [decide_eq_false hb]
     have HF:=hid_ (show freeT x stk loc=(0,0,215) by rw [HFT.out,if_pos (.inl hb)])
     clear hb
     go_wp2_with (fail)
     go_ret3
     rw [HF.out]
     exact ⟨rfl,HD2.out⟩)
 ·
  by_cases h32:x.f0=32
  rotate_left
  ·
   have hop:x.f0=30∨x.f0=33∨x.f0=34∨x.f0=31∨x.f0=35:=by omega
   have n1:¬(x.f0=27∨x.f0=28∨x.f0=29):=by omega
   have hft:freeT x stk loc=if stk.length<1 then (0,0,214) else if x.f0=35 then (1,0,0) else if ¬(stk.getD (stk.length - 1) 0=1∨stk.getD (stk.length - 1) 0=2) then (0,0,215) else if x.f0=31 then (1,0,0) else (1,stk.getD (stk.length - 1) 0,0):=by
    unfold freeT dZb
    rw [if_neg n1,if_neg h32]
    by_cases a:stk.length<1
    · rw [if_pos a,if_pos a]
    ·
     rw [if_neg a,if_neg a]
     by_cases b:x.f0=35
     · rw [if_pos b,if_pos b];rfl
     ·
      rw [if_neg b,if_neg b]
      by_cases c:¬(stk.getD (stk.length - 1) 0=1∨stk.getD (stk.length - 1) 0=2)
      · rw [if_pos c,if_pos c]
      ·
       rw [if_neg c,if_neg c]
       by_cases d:x.f0=31
       · rw [if_pos d,if_pos d];rfl
       · rw [if_neg d,if_neg d];rfl
   by_cases hlt:stk.length<1
   ·
    have q0:(stk.length:Int)<1:=by omega
    rw [if_pos hlt] at hft
    have HF:=hid_ hft
    clear hft e1 e2 htop hloc hA n1
    rcases hop with e|e|e|e|e <;> (rw [e] at x0;clear e;go_wp2_with (fail);go_ret3;rw [HF.out];exact ⟨rfl,HB.out⟩)
   ·
    have q0:¬(stk.length:Int)<1:=by omega
    rw [if_neg hlt] at hft
    obtain ⟨ad,rfl,y0⟩:=htop (stk.length - 1) (by omega)
    obtain ⟨w1,w2⟩:=e1 (by omega)
    generalize stk.getD (stk.length - 1) 0=top at hft y0
    have i0:(0:Int)≤((stk.length - 1:Nat):Int):=by omega
    have i1:((stk.length - 1:Nat):Int)<(stk.length:Int):=by omega
    have HFT:=hid_ hft
    clear hft e1 e2 htop hloc hlt hA n1
    rcases hop with e | e | e | e | e <;> (
     rw [e] at x0
     have HE:=hid_ e
     clear e
     go_wp2_with (fail)
     refine (show Calls _ _ _ _ _ from berthref21_bitmap.calls top _ W (bit_f top)).mono ?_
     rintro e w2 ⟨rfl,hdw⟩
     have hb2:=Drawn0.below_ hdw
     have HD2:=hid_ (HB.out.trans (hb2.mono HB.out.size))
     replace x0:=aZe hb2 x0
     replace z0:=aZe hb2 z0
     clear hdw hb2 x1 x2 x3 z1 y0
     by_cases hb:top=1∨top=2
     ·
      rw [decide_eq_true hb]
      have HH:=hid_ hb
      clear hb
      go_wp2_with (fail)
      go_ret3
      have he:=HE.out
      have hb:=HH.out
      rw [HFT.out]
      simp [he,hb,HD2.out]
     ·
      rw [decide_eq_false hb]
      have HH:=hid_ hb
      clear hb
      go_wp2_with (fail)
      go_ret3
      have he:=HE.out
      have hb:=HH.out
      rw [HFT.out]
      simp [he,hb,HD2.out])
  ·
   have n1:¬(x.f0=27∨x.f0=28∨x.f0=29):=by omega
   obtain ⟨ad,rfl,y0⟩:=hloc (h2 h32).1 (h2 h32).2
   obtain ⟨i0,i1⟩:=h2 h32
   have hft:freeT x stk loc=if loc.getD x.f1.toNat 0=0 then (0,0,217) else (0,loc.getD x.f1.toNat 0,0):=by
    unfold freeT dZb
    rw [if_neg n1,if_pos h32]
    by_cases a:loc.getD x.f1.toNat 0=0
    · rw [if_pos a,if_pos a]
    · rw [if_neg a,if_neg a];rfl
   generalize loc.getD x.f1.toNat 0=lv at hft y0
   have q0:¬(stk.length:Int)<0:=by omega
   have HFT:=hid_ hft
   have HY:=hid_ y0
   rw [h32] at x0
   clear hft e1 e2 htop hloc hA n1 h2 h32 y0 h0 h1
   go_wp2_with (fail)
   refine (show Calls _ _ _ _ _ from berthref21_bitmap.calls 0 _ W (bit_f 0)).mono ?_
   rintro e w2 ⟨rfl,hdw⟩
   have hb2:=Drawn0.below_ hdw
   have HD2:=hid_ (HB.out.trans (hb2.mono HB.out.size))
   replace x0:=aZe hb2 x0
   replace x1:=aZe hb2 x1
   replace z1:=aZe hb2 z1
   have y0:=aZe hb2 HY.out
   clear hdw hb2 x2 x3 z0
   by_cases hv:lv=0
   ·
    have HF:=hid_ (show freeT x stk loc=(0,0,217) by rw [HFT.out,if_pos hv])
    have b0:(lv == 0)=true:=beq_iff_eq.2 hv
    clear hv
    go_wp2_with (fail)
    go_ret3
    rw [HF.out]
    exact ⟨rfl,HD2.out⟩
   ·
    have HF:=hid_ (show freeT x stk loc=(0,lv,0) by rw [HFT.out,if_neg hv])
    have b0:(lv == 0)=false:=beq_eq_false_iff_ne.2 hv
    clear hv
    go_upto_region 37 with (fail)
    go_region_held3 (fun w'=>w'.cell? ⟨w.heap.size,1,none⟩=some (.int .i64 x.f1)∧w'.cell? ⟨b1,1,none⟩=some (.slice (some ad) loc.length c2)∧w'.cell? (ad.add x.f1.toNat)=some (.int .i64 lv)) (go_keep) (fail)
    go_wp2_with (fail)
    go_ret3
    rw [HF.out]
    exact ⟨rfl,HD2.out.drew⟩
theorem lit_ints (W:World) (xs:List Int) (hx:xs.length≤100):(Kd.int .i64).R 3 (W.alloc (.cells (xs.map (fun x=>Value.int .i64 x)).toArray 3)) W.heap.size (fun _=>True) (.slice (some ⟨W.heap.size,0,none⟩) xs.length xs.length) xs:=by
  have h:=World.ownsRow_lit (base:=W.heap.size) (e:=3) (size:=1) W (xs.map (fun x=>Value.int .i64 x)).toArray xs.length (Nat.le_refl _) (by simp only [maxLen];omega) (by simp)
  have h2:(W.alloc (.cells (xs.map (fun x=>Value.int .i64 x)).toArray 3)).ownsRow W.heap.size 3 1 (.slice (some ⟨W.heap.size,0,none⟩) xs.length xs.length) xs.length (xs.map (Value.int .i64)):=by simpa using h
  exact ⟨fun _ _=>trivial,xs.map (Value.int .i64),h2,Kd.reps_scalar (enc:=Value.int .i64) xs⟩
theorem iZg (op a:Int) (w:World) (h1:1≤op) (h2:op≤36) (g:¬(27≤op∧op≤35)) (K:List Int) (p:Int) (h:berthref21_Effect.f 8 op a=some (K,p)) :
 Calls Try.prog 38 #[.int .i64 op,.int .i64 a] w fun e w'=>∃ v0:Value,e=.returned (.tuple #[v0,.int .i64 p])∧Kd.R (Kd.int .i64) 3 w' w.heap.size (fun _=>True) v0 K∧Below w.heap.size w w':=by
 have hn:=Kd.R_nil (Kd.int .i64) 3 w w.heap.size (fun _=>True)
 have hop:op=1∨op=2∨op=3∨op=4∨op=5∨op=6∨op=7∨op=8∨op=9∨op=10∨op=11∨op=12∨op=13∨op=14∨op=15∨op=16∨op=17∨op=18∨op=19∨op=20∨op=21∨op=22∨op=23∨op=24∨op=25∨op=26∨op=36:=by omega
 have HL:=hid_ (fun xs hx=>lit_ints w xs hx)
 have HN:=hid_ hn
 clear hn h1 h2 g
 have HP:∀ (K':List Int) (p':Int),berthref21_Effect.f 8 op a=some (K',p')→K=K'∧p=p':=fun K' p' h'=>by
  rw [h'] at h;injection h with h;injection h with q1 q2;exact ⟨q1.symm,q2.symm⟩
 clear h
 rcases hop with rfl|rfl|rfl|rfl|rfl|rfl|rfl|rfl|rfl|rfl|rfl|rfl|rfl|rfl|rfl|rfl|rfl|rfl|rfl|rfl|rfl|rfl|rfl|rfl|rfl|rfl|rfl
 all_goals (
  obtain ⟨rfl,rfl⟩:=HP _ _ rfl
  clear HP
  go_enter Try.func38,Try.ntmps38
  go_wp2_with (fail)
  go_ret2
  first
   | exact ⟨_,rfl,HN.out,Below.refl _ _⟩
   | exact ⟨_,rfl,HL.out [_] (by decide),aZa (Below.refl _ _) _⟩
   | exact ⟨_,rfl,HL.out [_,_] (by decide),aZa (Below.refl _ _) _⟩)
theorem gZj (op:Int) (w:World) (h1:1≤op) (h2:op≤36) (a b c:Int) (h:berthref21_Operands.f 10 op=some (a,b,c)) :
 Calls Try.prog 96 #[.int .i64 op] w fun e w'=>e=.returned (.tuple #[.int .i64 a,.int .i64 b,.int .i64 c])∧Below w.heap.size w w':=by
 have HP:∀ (a' b' c':Int),berthref21_Operands.f 10 op=some (a',b',c')→a=a'∧b=b'∧c=c':=fun a' b' c' h'=>by
  rw [h'] at h;injection h with h;injection h with q1 q2;injection q2 with q2 q3;exact ⟨q1.symm,q2.symm,q3.symm⟩
 have hop:op=1∨op=2∨op=3∨op=4∨op=5∨op=6∨op=7∨op=8∨op=9∨op=10∨op=11∨op=12∨op=13∨op=14∨op=15∨op=16∨op=17∨op=18∨op=19∨op=20∨op=21∨op=22∨op=23∨op=24∨op=25∨op=26∨op=27∨op=28∨op=29∨op=30∨op=31∨op=32∨op=33∨op=34∨op=35∨op=36:=by omega
 clear h h1 h2
 rcases hop with rfl|rfl|rfl|rfl|rfl|rfl|rfl|rfl|rfl|rfl|rfl|rfl|rfl|rfl|rfl|rfl|rfl|rfl|rfl|rfl|rfl|rfl|rfl|rfl|rfl|rfl|rfl|rfl|rfl|rfl|rfl|rfl|rfl|rfl|rfl|rfl
 all_goals (
  obtain ⟨rfl,rfl,rfl⟩:=HP _ _ _ rfl
  clear HP
  go_enter Try.func96,Try.ntmps96
  go_wp2_with (fail)
  go_ret3
  exact ⟨rfl,Below.refl _ _⟩)
theorem bZj (W:World) (a b c:Obj):(((W.alloc a).alloc b).alloc c).heap[W.heap.size]?=some a∧(((W.alloc a).alloc b).alloc c).heap[W.heap.size+1]?=some b∧(((W.alloc a).alloc b).alloc c).heap[W.heap.size+1+1]?=some c∧Below W.heap.size W (((W.alloc a).alloc b).alloc c):=by
  obtain ⟨h1,h2,h3⟩:=aZ5 W a b
  have hs:((W.alloc a).alloc b).heap.size=W.heap.size+1+1:=by simp
  have h:=heap_alloc_new ((W.alloc a).alloc b) c
  rw [hs] at h
  exact ⟨(heap_alloc_old _ _ (aZd h1)).trans h1,(heap_alloc_old _ _ (aZd h2)).trans h2,h,aZa h3 _⟩
def BehEnd (w:World) (vs vl:Value) (loc:List Int) (r:Except Int Pr) (e:Ending) (w':World):Prop :=
  Below w.heap.size w w' ∧
  match r with
  | .error n=>e=.returned (.tuple #[.agg #[vs,vl],.int .i64 n])
  | .ok t=>∃ v1 v2,e=.returned (.tuple #[.agg #[v1,v2],.int .i64 0])∧(Kd.int .i64).R 3 w' w.heap.size (fun _=>True) v1 t.1∧(v2=vl∧t.2=loc∨(Kd.int .i64).R 3 w' w.heap.size (fun _=>True) v2 t.2)
theorem results59 (tmps:Array Value) (w:World) (P:Nat) (a b ev:Value) (h2:tmps.getD 4 undef=.pointer (some ⟨P,0,none⟩)) (h3:tmps.getD 5 undef=ev) (hP:w.heap[P]?=some (.cells #[a,b] 94 (0,0))) :
    (results Try.f59 tmps).run Try.prog w=.ok (.tuple #[.agg #[a,b],ev]) w:=by
  have hl:=run_loadVar_row (P:=Try.prog) w P 94 94 #[a,b] (0,0) _ hP Try.underlying94 rfl (by kernel_rfl)
  have h2':tmps[4]?.getD undef=.pointer (some ⟨P,0,none⟩):=by simpa using h2
  have h3':tmps[5]?.getD undef=ev:=by simpa using h3
  simp [results,Try.results59,h2',h3',asAddr,hl]
def hZm (x:S66) (stk loc:List Int) (n:Nat) (p e:Int):Prop :=
  (e≠0∧aZS x stk loc=.error e)∨(e=0∧n≤stk.length∧(x.f0=31→1≤stk.length)∧aZS x stk loc=.ok (stk.take (stk.length - n)++cZz p,if x.f0=31 then loc.set x.f1.toNat (stk.getD (stk.length - 1) 0) else loc))
theorem hZF {x:S66} {stk loc:List Int} {e:Int} (h:dZb x stk loc=.error e):e≠0:=by
  unfold dZb at h
  repeat' split at h
  all_goals first|(injection h with h;omega)|(cases h)
theorem free_ok {x:S66} {stk loc:List Int} {n:Nat} {p:Int} (h:dZb x stk loc=.ok (n,p)):n≤stk.length∧(x.f0=31→1≤stk.length):=by
  unfold dZb at h
  repeat' split at h
  all_goals first|(cases h;done)|(simp only [Except.ok.injEq,Prod.mk.injEq] at h;omega)
theorem front_err {x:S66} {stk loc:List Int} {e:Int} (g:27≤x.f0∧x.f0≤35) (h:dZb x stk loc=.error e):hZm x stk loc 0 0 e :=
  .inl ⟨hZF h,by unfold aZS;rw [if_pos g,h]⟩
theorem front_ok {x:S66} {stk loc:List Int} {n:Nat} {p:Int} (g:27≤x.f0∧x.f0≤35) (h:dZb x stk loc=.ok (n,p)):hZm x stk loc n p 0 :=
  .inr ⟨rfl,(free_ok h).1,(free_ok h).2,by unfold aZS;rw [if_pos g,h]⟩
theorem eff_some (op a:Int) (h1:1≤op) (h2:op≤36) (g:¬(27≤op∧op≤35)):berthref21_Effect.f 8 op a=some (effF op a):=by
  have hop:op=1∨op=2∨op=3∨op=4∨op=5∨op=6∨op=7∨op=8∨op=9∨op=10∨op=11∨op=12∨op=13∨op=14∨op=15∨op=16∨op=17∨op=18∨op=19∨op=20∨op=21∨op=22∨op=23∨op=24∨op=25∨op=26∨op=36:=by omega
  rcases hop with rfl|rfl|rfl|rfl|rfl|rfl|rfl|rfl|rfl|rfl|rfl|rfl|rfl|rfl|rfl|rfl|rfl|rfl|rfl|rfl|rfl|rfl|rfl|rfl|rfl|rfl|rfl
  all_goals rfl
theorem iZp {x:S66} {stk loc:List Int} (g:¬(27≤x.f0∧x.f0≤35)) {K:List Int} {p:Int} (h:effF x.f0 x.f1=(K,p)) :
    aZS x stk loc=if stk.length<K.length then .error 214 else if stk.drop (stk.length - K.length)≠K then .error 215 else .ok (stk.take (stk.length - K.length)++cZz p,loc):=by
  unfold aZS
  rw [if_neg g,h]
theorem froz {W:World} {k t:Nat} {cs:Array Value} (h:W.heap[k]?=some (.cells cs t (0,0))) (i:Nat):W.frozen? ⟨k,i,none⟩=false:=by simp [World.frozen?,h]
def Half (wc wx:World) (Z:Nat) (v vl:Value) (S:List Int):Prop :=
  wx.heap[Z]?=some (.cells #[v,vl] 94 (0,0))∧(Kd.int .i64).R 3 wx wc.heap.size (fun _=>True) v S∧Below wc.heap.size wc wx
theorem Half.put {wc w1:World} {Z:Nat} {v0 v1 vl:Value} {S:List Int} (hZ:w1.heap[Z]?=some (.cells #[v0,vl] 94 (0,0))) (hr:(Kd.int .i64).R 3 w1 wc.heap.size (fun _=>True) v1 S) (hB:Below wc.heap.size wc w1) (hz:wc.heap.size≤Z):Half wc (w1.setCell ⟨Z,0,none⟩ v1) Z v1 vl S :=
  ⟨by simp [World.setCell,hZ,Array.getElem?_modify],Kd.R_set hr hZ (by decide) 0 v1,hB.setCell hz _⟩
def vAt (a:Addr) (W:World):Int:=match W.cell? a with|some (.int _ n)=>n | _=>0
theorem vAt_any {W:World} {a:Addr} (h:∃ n,W.cell? a=some (.int .i64 n)):W.cell? a=some (.int .i64 (vAt a W)):=by
  obtain ⟨n,h⟩:=h
  unfold vAt
  rw [h]
theorem h21_store {W:World} {g f Z N M:Nat} {ad:Addr} {a b c d:Value} {o t:Int} (n0:g≠Z) (n1:g≠N) (n2:g≠M) (n3:g≠ad.block) (h0:W.cell? ⟨Z,1,none⟩=some a) (h1:W.cell? ⟨N,1,none⟩=some b) (h2:W.cell? ⟨M,0,none⟩=some c) (h3:W.cell? ad=some d) (h4:W.cell? ⟨g,f,none⟩=some (.int .i64 o)) (h5:W.frozen? ⟨g,f,none⟩=false) :
    (W.setCell ⟨g,f,none⟩ (.int .i64 t)).drew.cell? ⟨Z,1,none⟩=some a∧(W.setCell ⟨g,f,none⟩ (.int .i64 t)).drew.cell? ⟨N,1,none⟩=some b∧(W.setCell ⟨g,f,none⟩ (.int .i64 t)).drew.cell? ⟨M,0,none⟩=some c∧(W.setCell ⟨g,f,none⟩ (.int .i64 t)).drew.cell? ad=some d∧(W.setCell ⟨g,f,none⟩ (.int .i64 t)).drew.cell? ⟨g,f,none⟩=some (.int .i64 (vAt ⟨g,f,none⟩ (W.setCell ⟨g,f,none⟩ (.int .i64 t)).drew))∧(W.setCell ⟨g,f,none⟩ (.int .i64 t)).drew.frozen? ⟨g,f,none⟩=false :=
  ⟨(World.cell?_setCell_far W _ _ _ n0).trans h0, (World.cell?_setCell_far W _ _ _ n1).trans h1, (World.cell?_setCell_far W _ _ _ n2).trans h2, (World.cell?_setCell_far W _ _ _ n3).trans h3, vAt_any ⟨t, World.cell?_setCell_same W _ _ h4⟩, by
    show (W.setCell ⟨g,f,none⟩ (.int .i64 t)).frozen? ⟨g,f,none⟩=false
    rw [World.frozen?_setCell]
    exact h5⟩
theorem take_len (stk:List Int) (n:Nat) (h:n≤stk.length):(stk.take (stk.length - n)).length=stk.length - n:=by rw [List.length_take];omega
theorem bZV {t:Nat} (W:World) (Z:Nat) (a b:Value) (h:∃ x0 x1,W.heap[Z]?=some (.cells #[x0,x1] t (0,0))):((W.setCell ⟨Z,0,none⟩ a).setCell ⟨Z,1,none⟩ b).heap[Z]?=some (.cells #[a,b] t (0,0)):=by
  obtain ⟨x0,x1,h⟩:=h
  simp [World.setCell,h,Array.getElem?_modify]
theorem hZi {w W:World} {vs vl a b:Value} {loc:List Int} {r:Except Int Pr} {n:Int} {Z:Nat} (hB:Below w.heap.size w W) (hZ:w.heap.size≤Z) (h:r=.error n):BehEnd w vs vl loc r (.returned (.tuple #[.agg #[vs,vl],.int .i64 n])) ((W.setCell ⟨Z,0,none⟩ a).setCell ⟨Z,1,none⟩ b):=by
  subst h
  exact ⟨(hB.setCell hZ _).setCell hZ _,rfl⟩
theorem iZq (w:World) (x:S66) (vs vl:Value) (stk loc:List Int) (base:Nat) (ok:Nat→Prop) (hs:(Kd.int .i64).R 3 w base ok vs stk) (hl:(Kd.int .i64).R 3 w base ok vl loc) (h1:1≤x.f0) (h2:x.f0≤36) (h3:x.f0=31∨x.f0=32→0≤x.f1∧x.f1<loc.length) (ls:stk.length≤100000) (ll:loc.length≤100000) :
 Calls Try.prog 59 #[.agg #[.int .i64 x.f0,.int .i64 x.f1,.int .i64 x.f2,.int .i64 x.f3],.agg #[vs,vl]] w (BehEnd w vs vl loc (aZS x stk loc)):=by
 obtain ⟨A1,c1,rfl,k1,r1⟩:=Kd.R_reads hs
 obtain ⟨A2,c2,rfl,k2,r2⟩:=Kd.R_reads hl
 go_enter Try.func59,Try.ntmps59
 go_upto_region 1 with (fail)
 obtain ⟨hx,hb,ho,hB⟩:=bZj w (.cells #[.int .i64 x.f0,.int .i64 x.f1,.int .i64 x.f2,.int .i64 x.f3] 66) (.cells #[.slice A1 stk.length c1,.slice A2 loc.length c2] 94) (.cells #[.slice none 0 0,.slice none 0 0] 94)
 generalize ((w.alloc (.cells #[.int .i64 x.f0,.int .i64 x.f1,.int .i64 x.f2,.int .i64 x.f3] 66)).alloc (.cells #[.slice A1 stk.length c1,.slice A2 loc.length c2] 94)).alloc (.cells #[.slice none 0 0,.slice none 0 0] 94)=W0 at hx hb ho hB ⊢
 have c1':=Kd.C_below r1 hB
 have c2':=Kd.C_below r2 hB
 have h94:∀ i,W0.frozen? ⟨w.heap.size+1+1,i,none⟩=false:=fun i=>by simp [World.frozen?,ho]
 have HX:=hid_ hx
 have HS:=hid_ hb
 have HO:=hid_ ho
 have HB:=hid_ hB
 have HC1:=hid_ c1'
 have HC2:=hid_ c2'
 clear r1 r2 hs hl h94 c1' c2'
 have y0:W0.cell? ⟨w.heap.size,0,none⟩=some (.int .i64 x.f0):=by simp [World.cell?,hx]
 have y1:W0.cell? ⟨w.heap.size,1,none⟩=some (.int .i64 x.f1):=by simp [World.cell?,hx]
 have y2:W0.cell? ⟨w.heap.size,2,none⟩=some (.int .i64 x.f2):=by simp [World.cell?,hx]
 have y3:W0.cell? ⟨w.heap.size,3,none⟩=some (.int .i64 x.f3):=by simp [World.cell?,hx]
 have z0:W0.cell? ⟨w.heap.size+1,0,none⟩=some (.slice A1 stk.length c1):=by simp [World.cell?,hb]
 have z1:W0.cell? ⟨w.heap.size+1,1,none⟩=some (.slice A2 loc.length c2):=by simp [World.cell?,hb]
 clear hx hb ho hB
 go_upto_region 3 with (fail)
 go_cut [21] (fun s wx=>s=.bool (decide (27≤x.f0∧x.f0≤35))∧wx=W0)
 case first =>
  by_cases g1:27≤x.f0
  ·
   by_cases g2:x.f0≤35
   ·
    go_wp2_with (fail)
    go_meet
    exact ⟨by rw [decide_eq_true (by omega)],rfl⟩
   ·
    go_wp2_with (fail)
    go_meet
    exact ⟨by rw [decide_eq_false (by omega)],rfl⟩
  ·
   go_wp2_with (fail)
   go_meet
   exact ⟨by rw [decide_eq_false (by omega)],rfl⟩
 case rest =>
 obtain ⟨rfl,hwc⟩:=hcut
 rw [hwc]
 clear hwc wc
 go_upto_if 21 with (fail)
 go_cut [7,8,9] (fun s7 s8 s9 wx=>∃ (n:Nat) (p e:Int),s7=.int .i64 n∧s8=.int .i64 p∧s9=.int .i64 e∧hZm x stk loc n p e∧Below W0.heap.size W0 wx)
 case first =>
  by_cases g:27≤x.f0∧x.f0≤35
  ·
   have hd:decide (27≤x.f0∧x.f0≤35)=true:=decide_eq_true g
   have hft:=free_any W0 x A1 A2 c1 c2 stk loc HC1.out HC2.out g.1 g.2 (fun h=>h3 (.inr h)) (by omega)
   rw [hd]
   clear hd
   cases hF:dZb x stk loc with
   | error e0 =>
    rw [show freeT x stk loc=(0,0,e0) by unfold freeT;rw [hF]] at hft
    have HFR:=hid_ (front_err g hF)
    have HFT:=hid_ hft
    clear hft hF g
    go_wp2_with (fail)
    refine HFT.out.mono ?_
    rintro e w1 ⟨rfl,bel⟩
    go_wp2_with (fail)
    go_meet
    exact ⟨0,0,e0,rfl,rfl,rfl,HFR.out,bel⟩
   | ok np =>
    obtain ⟨n,p⟩:=np
    rw [show freeT x stk loc=(((n:Nat):Int),p,0) by unfold freeT;rw [hF]] at hft
    have HFR:=hid_ (front_ok g hF)
    have HFT:=hid_ hft
    clear hft hF g
    go_wp2_with (fail)
    refine HFT.out.mono ?_
    rintro e w1 ⟨rfl,bel⟩
    go_wp2_with (fail)
    go_meet
    exact ⟨n,p,0,rfl,rfl,rfl,HFR.out,bel⟩
  ·
   have hd:decide (27≤x.f0∧x.f0≤35)=false:=decide_eq_false g
   have hes:=eff_some x.f0 x.f1 h1 h2 g
   rw [hd]
   clear hd
   generalize hK:effF x.f0 x.f1=Kp at hes
   obtain ⟨K,p⟩:=Kp
   have HBE:=hid_ (iZp (stk:=stk) (loc:=loc) g hK)
   have HES:=hid_ (And.intro h1 (And.intro h2 (And.intro g hes)))
   have H31:=hid_ (show x.f0≠31 by omega)
   clear hes hK g
   go_wp2_with (fail)
   refine (show Calls _ _ _ _ _ from iZg x.f0 x.f1 W0 HES.out.1 HES.out.2.1 HES.out.2.2.1 K p HES.out.2.2.2).mono ?_
   rintro e w1 ⟨v0,rfl,hR,bel⟩
   obtain ⟨A5,c5,rfl,k5,r5⟩:=Kd.R_reads hR
   clear hR
   have hs1:=aZc HS.out bel
   have ho1:=aZc HO.out bel
   have q1:=Kd.C_below HC1.out bel
   have hB1:=HB.out.trans (bel.mono HB.out.size)
   have z0':w1.cell? ⟨w.heap.size+1,0,none⟩=some (.slice A1 stk.length c1):=by simp [World.cell?,hs1]
   have z1':w1.cell? ⟨w.heap.size+1,1,none⟩=some (.slice A2 loc.length c2):=by simp [World.cell?,hs1]
   have o0:w1.cell? ⟨w.heap.size+1+1,0,none⟩=some (.slice none 0 0):=by simp [World.cell?,ho1]
   have o1:w1.cell? ⟨w.heap.size+1+1,1,none⟩=some (.slice none 0 0):=by simp [World.cell?,ho1]
   have of:∀ i,w1.frozen? ⟨w.heap.size+1+1,i,none⟩=false:=fun i=>by simp [World.frozen?,ho1]
   have HS1:=hid_ hs1
   have HO1:=hid_ ho1
   have HB1:=hid_ hB1
   have HQ1:=hid_ q1
   have HR5:=hid_ r5
   have HBEL:=hid_ bel
   clear hs1 ho1 q1 hB1 r5 bel y0 y1 y2 y3 z0 z1
   by_cases hlt:stk.length<K.length
   ·
    have i0:(stk.length:Int)<(K.length:Int):=by omega
    go_wp2_with (fail)
    have hres:=HBE.out
    rw [if_pos hlt] at hres
    exact bodyPost_ret (results59 _ _ (w.heap.size+1+1) _ _ _ rfl rfl (bZV _ _ _ _ ⟨_,_,HO1.out⟩)) rfl (hZi HB1.out (by omega) hres)
   ·
    have i0:¬(stk.length:Int)<(K.length:Int):=by omega
    have e1:IntKind.i64.wrap ((stk.length:Int) - (K.length:Int))=((stk.length - K.length:Nat):Int):=by rw [show (stk.length:Int) - (K.length:Int)=((stk.length - K.length:Nat):Int) by omega];exact IntWalk.i64_in _ ⟨by omega,by omega⟩
    obtain ⟨i3,f3,f4⟩:∃ i,Try.prog.info? 3=some i∧i.size=1:=Option.map_eq_some_iff.1 (show (Try.prog.info? 3).map (fun i=>i.size)=some 1 by kernel_rfl)
    obtain ⟨D,A6,c6,hD,hcut,hdrop,hcl⟩:∃ D A6 c6,D=stk.drop (stk.length - K.length)∧(∀ W,(Instr.slice 23 (.slice A1 stk.length c1) (some (.int .i64 ((stk.length - K.length:Nat):Int))) none none).run Try.prog W=.ok (.slice A6 D.length c6) W)∧Kd.C (Kd.int .i64) w1 A6 D.length D∧D.length≤c6:=by
     refine ⟨_,_,c1 - (stk.length - K.length),rfl,fun W=>?_,Kd.C_drop HQ1.out (Nat.sub_le stk.length K.length) k1,?_⟩
     ·
      have hc:=cut_from (P:=Try.prog) 23 3 .i64 Try.underlying23 f3 1 f4 A1 stk.length c1 ((stk.length - K.length:Nat):Int) (by omega) (by omega) W
      rw [Int.toNat_natCast] at hc
      rw [List.length_drop]
      exact hc
     · rw [List.length_drop];omega
    have HDR:=hid_ hdrop
    have hsi:=dZY D K (by rw [hD,List.length_drop];omega) (D.length+1) (Nat.lt_succ_self _)
    have HSI:=hid_ hsi
    have HD:=hid_ hD
    clear hdrop f3 f4 hsi hD
    go_wp2_with (fail)
    refine (show Calls _ _ _ _ _ from berthref21_sameInts.calls _ A6 c6 _ A5 c5 K _ w1 HDR.out hcl HR5.out k5 HSI.out).mono ?_
    rintro e w2 ⟨rfl,hdw⟩
    have hbe2:=Drawn0.below_ hdw
    clear hdw
    have hs2:=aZc HS1.out hbe2
    have ho2:=aZc HO1.out hbe2
    have hB2:=HB1.out.trans (hbe2.mono HB1.out.size)
    have z0'':w2.cell? ⟨w.heap.size+1,0,none⟩=some (.slice A1 stk.length c1):=by simp [World.cell?,hs2]
    have z1'':w2.cell? ⟨w.heap.size+1,1,none⟩=some (.slice A2 loc.length c2):=by simp [World.cell?,hs2]
    have of2:∀ i,w2.frozen? ⟨w.heap.size+1+1,i,none⟩=false:=fun i=>by simp [World.frozen?,ho2]
    have o0':w2.cell? ⟨w.heap.size+1+1,0,none⟩=some (.slice none 0 0):=by simp [World.cell?,ho2]
    have o1':w2.cell? ⟨w.heap.size+1+1,1,none⟩=some (.slice none 0 0):=by simp [World.cell?,ho2]
    have HO2:=hid_ ho2
    have HB2:=hid_ hB2
    have HBE2:=hid_ (HBEL.out.trans (hbe2.mono HBEL.out.size))
    clear hs2 ho2 hB2 hbe2 z0' z1' o0 o1 of
    have hBE:=HBE.out
    rw [←HD.out,if_neg hlt] at hBE
    have HBE:=hid_ hBE
    clear hBE
    by_cases hdK:D=K
    ·
     have hdd:decide (D=K)=true:=decide_eq_true hdK
     rw [hdd]
     go_wp2_with (fail)
     go_meet
     refine ⟨K.length,p,0,rfl,rfl,rfl,.inr ⟨rfl,by omega,fun h=>absurd h H31.out,?_⟩,HBE2.out⟩
     rw [HBE.out,if_neg (fun h=>h hdK),if_neg H31.out]
    ·
     have hdd:decide (D=K)=false:=decide_eq_false hdK
     rw [hdd]
     go_wp2_with (fail)
     have hres:=HBE.out
     rw [if_pos hdK] at hres
     exact bodyPost_ret (results59 _ _ (w.heap.size+1+1) _ _ _ rfl rfl (bZV _ _ _ _ ⟨_,_,HO2.out⟩)) rfl (hZi HB2.out (by omega) hres)
 case rest =>
  obtain ⟨n,p,e,rfl,rfl,rfl,hfr,hbw⟩:=hcut
  obtain ⟨V0,hV0⟩:∃ V0,V0=wc:=⟨_,rfl⟩
  subst hV0
  have hx:=aZc HX.out hbw
  have hs:=aZc HS.out hbw
  have ho:=aZc HO.out hbw
  have q1:=Kd.C_below HC1.out hbw
  have q2:=Kd.C_below HC2.out hbw
  have hB:=HB.out.trans (hbw.mono HB.out.size)
  clear HX HS HO HC1 HC2 HB hbw y0 y1 y2 y3 z0 z1
  have z0:V0.cell? ⟨w.heap.size+1,0,none⟩=some (.slice A1 stk.length c1):=by simp [World.cell?,hs]
  have z1:V0.cell? ⟨w.heap.size+1,1,none⟩=some (.slice A2 loc.length c2):=by simp [World.cell?,hs]
  have o0:V0.cell? ⟨w.heap.size+1+1,0,none⟩=some (.slice none 0 0):=by simp [World.cell?,ho]
  have o1:V0.cell? ⟨w.heap.size+1+1,1,none⟩=some (.slice none 0 0):=by simp [World.cell?,ho]
  have of:∀ i,V0.frozen? ⟨w.heap.size+1+1,i,none⟩=false:=fun i=>by simp [World.frozen?,ho]
  have HX:=hid_ hx
  have HS:=hid_ hs
  have HO:=hid_ ho
  have HC1:=hid_ q1
  have HC2:=hid_ q2
  have HB:=hid_ hB
  clear hx hs ho q1 q2 hB
  rcases hfr with ⟨he,hres⟩ | ⟨rfl,hn,hl31,hres⟩
  ·
   go_wp2_with (fail)
   exact bodyPost_ret (results59 _ _ (w.heap.size+1+1) _ _ _ rfl rfl (bZV _ _ _ _ ⟨_,_,HO.out⟩)) rfl (hZi HB.out (by omega) hres)
  ·
   obtain ⟨S,hS⟩:∃ S,S=stk.take (stk.length - n):=⟨_,rfl⟩
   have hSl:S.length=stk.length - n:=by rw [hS];exact take_len stk n hn
   rw [←hS] at hres
   obtain ⟨loc2,hloc2⟩:∃ l,l=if x.f0=31 then loc.set x.f1.toNat (stk.getD (stk.length - 1) 0) else loc:=⟨_,rfl⟩
   rw [←hloc2] at hres
   have HRES:=hid_ hres
   have HL2:=hid_ hloc2
   have HH1:=hid_ (And.intro h1 (And.intro h2 h3))
   clear hres hloc2
   go_upto_region 16 with (fail)
   have hz1:=heap_alloc_new V0 (.cells #[.slice none 0 0,.slice A2 loc.length c2] 94)
   have hb1:=aZa (Below.refl V0.heap.size V0) (.cells #[.slice none 0 0,.slice A2 loc.length c2] 94)
   have hsz:(V0.alloc (.cells #[.slice none 0 0,.slice A2 loc.length c2] 94)).heap.size=V0.heap.size+1:=by simp
   generalize V0.alloc (.cells #[.slice none 0 0,.slice A2 loc.length c2] 94)=W1 at hz1 hb1 hsz ⊢
   have hCS:Kd.C (Kd.int .i64) V0 A1 S.length S:=by
    have:=Kd.C_take (m:=stk.length - n) HC1.out (Nat.sub_le _ _)
    rw [←hS] at this
    exact this
   have hb2:=aZa (Below.refl W1.heap.size W1) (.cells #[] 3)
   have hb12:=hb1.trans (hb2.mono hb1.size)
   have hCS2:=Kd.C_below hCS hb12
   have q0:(W1.alloc (.cells #[] 3)).cell? ⟨w.heap.size+1,0,none⟩=some (.slice A1 stk.length c1):=by simp [World.cell?,aZc HS.out hb12]
   have ew:IntKind.i64.wrap ((stk.length:Int) - (n:Int))=((S.length:Nat):Int):=by rw [hSl,show (stk.length:Int) - (n:Int)=((stk.length - n:Nat):Int) by omega];exact IntWalk.i64_in _ ⟨by omega,by omega⟩
   obtain ⟨i3,f3,-⟩:∃ i,Try.prog.info? 3=some i∧i.size=1:=Option.map_eq_some_iff.1 (show (Try.prog.info? 3).map (fun i=>i.size)=some 1 by kernel_rfl)
   have hto:∀ W,(Instr.slice 23 (.slice A1 stk.length c1) none (some (.int .i64 ((S.length:Nat):Int))) none).run Try.prog W=.ok (.slice A1 S.length c1) W:=fun W=>by
    have h:=cut_to (P:=Try.prog) 23 3 .i64 Try.underlying23 f3 A1 stk.length c1 ((S.length:Nat):Int) (by omega) (by omega) k1 W
    rw [Int.toNat_natCast] at h
    exact h
   have HSL:=hid_ hSl
   have HSE:=hid_ hS
   have HB1:=hid_ hb1
   have HSZ:=hid_ hsz
   have hSc:S.length≤100000:=by omega
   clear f3 hSl hS hCS hb12 o0 o1 of z0 z1 hb1 hsz
   go_upto_region 17 with ((with_reducible refine aZh (b:=.append) (xs:=#[.tmp 65,.tmp 73]) rfl ?_);at_builtin;refine Kd.R_append_rows (Kd.int .i64) (w0:=W1) W1.heap.size rfl (.tmp 65) (.tmp 73) 23 3 (.int .i64 0) 8 rfl Try.underlying23 info3 rfl (by decide) (by omega) _ [] S A1 S.length c1 (fun k=>W1.heap.size≤k) (fun _=>False) rfl rfl (fZj W1) hCS2 (fun _ _ h=>h) (fun _ hk=>hk.elim) (fun k hk=>by simp at hk;omega) (aZa (Below.refl _ _) _) (by simp) (by simp only [List.length_nil];omega) ?_;intro v1 w1 hr1 hbb1 hg1 _;have hr1:(Kd.int .i64).R 3 w1 W1.heap.size (fun k=>W1.heap.size≤k) v1 S:=hr1;obtain ⟨A8,c8,rfl⟩:=Kd.R_slice hr1;have g1:=aZc hz1 hbb1;have f1:=froz g1 0;have y1:w1.cell? ⟨V0.heap.size,0,none⟩=some (.slice none 0 0):=by simp [World.cell?,g1])
   have hbw1:=HB1.out.trans (hbb1.mono HB1.out.size)
   have hH:=Half.put g1 (Kd.R_mono (Kd.R_lower hr1 HB1.out.size) (fun _ _=>trivial)) hbw1 (Nat.le_refl _)
   clear hr1 hbb1 hg1 hbw1 g1 f1 y1 hto q0 hCS2 ew hb2 hz1 HB1 HSZ
   generalize w1.setCell ⟨V0.heap.size,0,none⟩ (.slice A8 S.length c8)=W2 at hH ⊢
   have HH:=hid_ hH
   clear hH
   go_upto_if 77 with (fail)
   go_cut [] (fun wx=>∃ v,Half V0 wx V0.heap.size v (.slice A2 loc.length c2) (S++cZz p))
   case first =>
    by_cases hp:0<p
    ·
     have dp:decide (p > 0)=true:=decide_eq_true hp
     have y1:W2.cell? ⟨V0.heap.size,0,none⟩=some (.slice A8 S.length c8):=by simp [World.cell?,HH.out.1]
     have y2:(W2.alloc (.cells #[.int .i64 p] 3)).cell? ⟨V0.heap.size,0,none⟩=some (.slice A8 S.length c8):=by simp [World.cell?,aZc HH.out.1 (aZa (Below.refl W2.heap.size W2) (.cells #[.int .i64 p] 3))]
     go_wp2_with ((with_reducible refine aZh (b:=.append) (xs:=#[.tmp 79,.tmp 81]) rfl ?_);at_builtin;refine Kd.R_append (Kd.int .i64) (w0:=V0) V0.heap.size rfl (.tmp 79) (.tmp 81) 23 3 (.int .i64 0) 8 rfl Try.underlying23 info3 rfl (by decide) (by omega) (.slice A8 S.length c8) S p [.int .i64 p] (fun _=>True) (fun _=>False) rfl rfl rfl (fun _ hk=>hk.elim) (fun _ _=>trivial) HH.out.2.1 HH.out.2.2 HH.out.2.2.size (by omega) ?_;intro v2 w2 hr2 hbb2 hg2 _;obtain ⟨A9,c9,hv9⟩:=Kd.R_slice hr2;rw [show (S++[p]).length=S.length+1 by simp] at hv9;subst hv9;have g2:=(hg2.block _ (aZd HH.out.1) (Kd.R_ne HH.out.2.1 HH.out.1 (by decide))).trans HH.out.1;have f2:=froz g2 0;have y3:w2.cell? ⟨V0.heap.size,0,none⟩=some (.slice A8 S.length c8):=by simp [World.cell?,g2])
     go_meet
     refine ⟨.slice A9 (S.length+1) c9,?_⟩
     rw [show cZz p=[p] by unfold cZz;rw [if_pos hp]]
     exact Half.put g2 hr2 hbb2 (Nat.le_refl _)
    ·
     have dp:decide (p > 0)=false:=decide_eq_false hp
     go_wp2_with (fail)
     go_meet
     refine ⟨.slice A8 S.length c8,?_⟩
     rw [show cZz p=[] by unfold cZz;rw [if_neg (by omega)],List.append_nil]
     exact HH.out
   case rest =>
    obtain ⟨v,hH⟩:=hcut
    obtain ⟨V2,hV2⟩:∃ V2,V2=wc:=⟨_,rfl⟩
    subst hV2
    clear HH
    have HH:=hid_ hH
    clear hH
    generalize hT:S++cZz p=T at HH HRES
    have HT:=hid_ hT
    clear hT
    have hbV:Below w.heap.size w V2:=HB.out.trans (HH.out.2.2.mono HB.out.size)
    have hx2:=aZc HX.out HH.out.2.2
    have x0:V2.cell? ⟨w.heap.size,0,none⟩=some (.int .i64 x.f0):=by simp [World.cell?,hx2]
    go_upto_if 85 with (fail)
    go_cut [] (fun wx=>∃ v' v2,wx.heap[V0.heap.size]?=some (.cells #[v',v2] 94 (0,0))∧(Kd.int .i64).R 3 wx w.heap.size (fun _=>True) v' T∧(v2=.slice A2 loc.length c2∧loc2=loc∨(Kd.int .i64).R 3 wx w.heap.size (fun _=>True) v2 loc2)∧Below V0.heap.size V0 wx)
    case first =>
     by_cases h31:x.f0=31
     ·
      have d31:(x.f0 == 31)=true:=by rw [beq_iff_eq];exact h31
      have h3:=HH1.out.2.2 (.inl h31)
      obtain ⟨f10,f11⟩:=h3
      have hl1:=hl31 h31
      have H31:=hid_ h31
      clear h31
      have hs2:=aZc HS.out HH.out.2.2
      have hbe:=aZa (Below.refl V2.heap.size V2) (.cells #[] 3)
      have z1:(V2.alloc (.cells #[] 3)).cell? ⟨w.heap.size+1,1,none⟩=some (.slice A2 loc.length c2):=by simp [World.cell?,aZc hs2 hbe]
      have hCL:=Kd.C_below (Kd.C_below HC2.out HH.out.2.2) (show Below V2.heap.size V2 (V2.alloc (.cells #[] 3)) from hbe)
      have HS2:=hid_ hs2
      have HX2:=hid_ hx2
      clear hs2 hx2 hbe
      go_upto_region 21 with ((with_reducible refine aZh (b:=.append) (xs:=#[.tmp 86,.tmp 88]) rfl ?_);at_builtin;refine Kd.R_append_rows (Kd.int .i64) (w0:=V2) V2.heap.size rfl (.tmp 86) (.tmp 88) 23 3 (.int .i64 0) 8 rfl Try.underlying23 info3 rfl (by decide) (by omega) _ [] loc A2 loc.length c2 (fun k=>V2.heap.size≤k) (fun _=>False) rfl rfl (fZj V2) hCL (fun _ _ h=>h) (fun _ hk=>hk.elim) (fun k hk=>by simp at hk;omega) (aZa (Below.refl _ _) _) (by simp) (by simp only [List.length_nil];omega) ?_;intro v3 w3 hr3 hbb3 hg3 _;have hr3:(Kd.int .i64).R 3 w3 V2.heap.size (fun k=>V2.heap.size≤k) v3 loc:=hr3;obtain ⟨A8,c8,hv8⟩:=Kd.R_slice hr3;subst hv8;have g3:=aZc HH.out.1 hbb3;have f3:=froz g3 1;have y3:w3.cell? ⟨V0.heap.size,1,none⟩=some (.slice A2 loc.length c2):=by simp [World.cell?,g3])
      have hR4:=Kd.R_set hr3 g3 (by decide) 1 (.slice A8 loc.length c8)
      have hv4:=Kd.R_set (Kd.R_below (Kd.R_bound HH.out.2.1) hbb3) g3 (by decide) 1 (.slice A8 loc.length c8)
      have hz4:(w3.setCell ⟨V0.heap.size,1,none⟩ (.slice A8 loc.length c8)).heap[V0.heap.size]?=some (.cells #[v,.slice A8 loc.length c8] 94 (0,0)):=by simp [World.setCell,g3,Array.getElem?_modify]
      have hB4:Below V0.heap.size V0 (w3.setCell ⟨V0.heap.size,1,none⟩ (.slice A8 loc.length c8)):=(HH.out.2.2.trans (hbb3.mono HH.out.2.2.size)).setCell (Nat.le_refl _) _
      have hbv2:=HH.out.2.2.size
      have HH0:=hid_ HH.out.1
      have hszw:=HB.out.size
      clear hr3 hbb3 hg3 g3 f3 y3 z1 hCL HS2 HX2 HH x0 hbV d31
      generalize w3.setCell ⟨V0.heap.size,1,none⟩ (.slice A8 loc.length c8)=W4 at hR4 hv4 hz4 hB4 ⊢
      obtain ⟨g,cap,hv8,hgl,hglt,-⟩:=Kd.R_form hR4 (by omega)
      simp only [Value.slice.injEq] at hv8
      obtain ⟨rfl,-,rfl⟩:=hv8
      obtain ⟨-,-,hCl⟩:=Kd.R_reads' hR4
      obtain ⟨ad8,had8,cd8⟩:=Kd.at_int hCl x.f1 f10 f11
      simp only [Option.some.injEq] at had8
      subst had8
      obtain ⟨-,-,-,-,hfr⟩:=Kd.R_elem hR4 (0:Int) x.f1 f10 f11
      obtain ⟨ad1,had1,cd1⟩:=Kd.at_int (Kd.C_below HC1.out hB4) ((stk.length - 1:Nat):Int) (by omega) (by omega)
      have hx4:=aZc HX.out hB4
      have hs4:=aZc HS.out hB4
      have x1:W4.cell? ⟨w.heap.size,1,none⟩=some (.int .i64 x.f1):=by simp [World.cell?,hx4]
      have z0:W4.cell? ⟨w.heap.size+1,0,none⟩=some (.slice A1 stk.length c1):=by simp [World.cell?,hs4]
      have z1:W4.cell? ⟨V0.heap.size,1,none⟩=some (.slice (some ⟨g,0,none⟩) loc.length c8):=by simp [World.cell?,hz4]
      obtain ⟨L,hL⟩:∃ L,L=stk.length - 1:=⟨_,rfl⟩
      rw [←hL] at cd1
      have ew:IntKind.i64.wrap ((stk.length:Int) - 1)=(L:Int):=by rw [show (stk.length:Int) - 1=(L:Int) by omega];exact IntWalk.i64_in _ ⟨by omega,by omega⟩
      have hrd:rd stk (L:Int)=stk.getD (stk.length - 1) 0:=by rw [←hL];simp [rd]
      rw [hrd,Int.toNat_natCast] at cd1
      have cs1:V0.cell? (ad1.add L)=some (.int .i64 (rd stk (L:Int))):=by
       obtain ⟨ad2,ha2,cd2⟩:=Kd.at_int HC1.out (L:Int) (by omega) (by omega)
       rw [had1] at ha2
       injection ha2 with ha2
       subst ha2
       rw [Int.toNat_natCast] at cd2
       exact cd2
      subst had1
      generalize htop:stk.getD (stk.length - 1) 0=top at cd1
      have HTOP:=hid_ htop
      have l0:(0:Int)≤(L:Int):=by omega
      have l1:(L:Int)<(stk.length:Int):=by omega
      have l2:L<stk.length:=by omega
      have cg:W4.cell? ⟨g,x.f1.toNat,none⟩=some (.int .i64 (rd loc x.f1)):=by
       have h:=cd8
       unfold Addr.add at h
       split at h
       ·
        rename_i h0
        rw [h0];exact h
       · simpa using h
      have fg:W4.frozen? ⟨g,x.f1.toNat,none⟩=false:=by have:=hfr 0;simpa [show (Kd.int .i64).sz=1 from rfl] using this
      have HR4:=hid_ hR4
      have HV4:=hid_ hv4
      have HZ4:=hid_ hz4
      have HB4:=hid_ hB4
      have HN:=hid_ (And.intro hgl (And.intro hglt hbv2))
      clear hR4 hv4 hz4 hB4 hgl hglt hbv2 hCl cd8 hfr hl1 hx4 hs4 hrd hL htop
      have m0:=aZd HH0.out
      have m1:=aZG cs1
      have m2:=aZd HS.out
      have n0:g≠V0.heap.size:=by have:=HN.out;omega
      have n1:g≠w.heap.size:=by have:=HN.out;omega
      have n2:g≠w.heap.size+1:=by have:=HN.out;omega
      have n3:g≠(ad1.add L).block:=by have:=HN.out;omega
      clear m0 m1 m2 cs1
      go_region_held3 (fun w'=>w'.cell? ⟨V0.heap.size,1,none⟩=some (.slice (some ⟨g,0,none⟩) loc.length c8)∧w'.cell? ⟨w.heap.size,1,none⟩=some (.int .i64 x.f1)∧w'.cell? ⟨w.heap.size+1,0,none⟩=some (.slice (some ad1) stk.length c1)∧w'.cell? (ad1.add L)=some (.int .i64 top)∧w'.cell? ⟨g,x.f1.toNat,none⟩=some (.int .i64 (vAt ⟨g,x.f1.toNat,none⟩ w'))∧w'.frozen? ⟨g,x.f1.toNat,none⟩=false) (first|exact ⟨z1,x1,z0,cd1,vAt_any ⟨_,cg⟩,fg⟩|exact h21_store n0 n1 n2 n3 z1 x1 z0 cd1 cg fg) (fail)
      go_wp2_with (fail)
      go_meet
      refine ⟨v,.slice (some ⟨g,0,none⟩) loc.length c8,(Below.heap_setCell W4 _ _ V0.heap.size (Ne.symm n0)).trans HZ4.out,Kd.R_lower (Kd.R_mono (Kd.R_step HV4.out (fun k hk _=>Below.heap_setCell W4 _ _ k ?_)) (fun _ _=>trivial)) HB.out.size,.inr ?_,(HB4.out.setCell ?_ _).drew⟩
      ·
       have h1:=hk.2.2.1
       have h2:=HN.out.1
       exact fun e=>by
        have e:k=g:=e
        omega
      ·
       have hp:=(Kd.R_putg HR4.out x.f1 top).1
       rw [HL2.out,if_pos H31.out,HTOP.out]
       exact Kd.R_drew (Kd.R_mono (Kd.R_lower hp (by have:=HN.out;have:=HB.out.size;omega)) (fun _ _=>trivial))
      ·
       have:=HN.out
       show V0.heap.size≤g
       omega
     ·
      have d31:(x.f0 == 31)=false:=by rw [beq_eq_false_iff_ne];exact h31
      go_wp2_with (fail)
      go_meet
      exact ⟨v,_,HH.out.1,Kd.R_lower HH.out.2.1 HB.out.size,.inl ⟨rfl,by rw [HL2.out,if_neg h31]⟩,HH.out.2.2⟩
    case rest =>
     obtain ⟨v',v2,g1,r1,r2,hb3⟩:=hcut
     obtain ⟨A7,c7,rfl⟩:=Kd.R_slice r1
     obtain ⟨A10,m10,c10,rfl⟩:∃ A m c,v2=.slice A m c:=by
      rcases r2 with ⟨rfl,-⟩|r2
      · exact ⟨_,_,_,rfl⟩
      ·
       obtain ⟨A,c,rfl⟩:=Kd.R_slice r2
       exact ⟨_,_,_,rfl⟩
     have ho3:=aZc HO.out hb3
     have hbw:=HB.out.trans (hb3.mono HB.out.size)
     have y0:wc.cell? ⟨V0.heap.size,0,none⟩=some (.slice A7 T.length c7):=by simp [World.cell?,g1]
     have y1:wc.cell? ⟨V0.heap.size,1,none⟩=some (.slice A10 m10 c10):=by simp [World.cell?,g1]
     have o0:wc.cell? ⟨w.heap.size+1+1,0,none⟩=some (.slice none 0 0):=by simp [World.cell?,ho3]
     have o1:wc.cell? ⟨w.heap.size+1+1,1,none⟩=some (.slice none 0 0):=by simp [World.cell?,ho3]
     have of:=froz ho3
     have HO3:=hid_ ho3
     have HR1:=hid_ r1
     have HR2:=hid_ r2
     have HB3:=hid_ hbw
     clear HH HX HS HO HC1 HC2 HB ho3 r1 r2 hbw hb3 g1 x0 hx2 hbV
     go_wp2_with (fail)
     have hres:=HRES.out
     refine bodyPost_ret (results59 _ _ (w.heap.size+1+1) (.slice A7 T.length c7) (.slice A10 m10 c10) (.int .i64 0) rfl rfl (bZV _ _ _ _ ⟨_,_,HO3.out⟩)) rfl ?_
     rw [hres]
     have R3:∀ {v:Value} {l:List Int},(Kd.int .i64).R 3 wc w.heap.size (fun _=>True) v l→(Kd.int .i64).R 3 ((wc.setCell ⟨w.heap.size+1+1,0,none⟩ (.slice A7 T.length c7)).setCell ⟨w.heap.size+1+1,1,none⟩ (.slice A10 m10 c10)) w.heap.size (fun _=>True) v l:=fun h=>by
      have h1:=Kd.R_set h HO3.out (by decide) 0 (.slice A7 T.length c7)
      have g1:(wc.setCell ⟨w.heap.size+1+1,0,none⟩ (.slice A7 T.length c7)).heap[w.heap.size+1+1]?=some (.cells #[.slice A7 T.length c7,.slice none 0 0] 94 (0,0)):=by simp [World.setCell,HO3.out,Array.getElem?_modify]
      exact Kd.R_set h1 g1 (by decide) 1 _
     exact ⟨(HB3.out.setCell (by simp;omega) _).setCell (by simp;omega) _,.slice A7 T.length c7,.slice A10 m10 c10,rfl,R3 HR1.out,HR2.out.elim (fun h=>.inl h) (fun h=>.inr (R3 h))⟩
def eZK (a b:List Int) (j:Nat):List Int:=(List.range a.length).map fun q=>if q<j then (aZH a b).getD q 0 else 0
theorem bZO (a b:List Int) (j:Nat):(eZK a b j).length=a.length:=by simp [eZK]
theorem cZF (a b:List Int) (j q:Nat) (h:q<a.length):(eZK a b j)[q]?=some (if q<j then (aZH a b).getD q 0 else 0):=by
  unfold eZK
  rw [List.getElem?_map,List.getElem?_range h]
  rfl
theorem iZb (a b:List Int):eZK a b 0=List.replicate a.length 0:=by
 apply List.ext_getElem?
 intro q
 rcases Nat.lt_or_ge q a.length with h|h
 · rw [cZF a b 0 q h,List.getElem?_replicate,if_pos h,if_neg (Nat.not_lt_zero _)]
 · rw [List.getElem?_eq_none (by rw [bZO];exact h),List.getElem?_eq_none (by simpa using h)]
theorem joinI_all (a b:List Int) (hl:a.length=b.length):eZK a b a.length=aZH a b:=by
 have hm:=aZY a b hl
 apply List.ext_getElem?
 intro q
 rcases Nat.lt_or_ge q a.length with h|h
 ·
  rw [cZF a b _ q h,if_pos h,List.getD_eq_getElem?_getD,List.getElem?_eq_getElem (by omega)]
  rfl
 · rw [List.getElem?_eq_none (by rw [bZO];exact h),List.getElem?_eq_none (by omega)]
theorem joinI_set (a b:List Int) (hl:a.length=b.length) (j:Nat) (hj:j<a.length) (he:a.getD j 0=b.getD j 0):(eZK a b j).set j (a.getD j 0)=eZK a b (j+1):=by
 apply List.ext_getElem?
 intro q
 rcases Nat.lt_or_ge q a.length with h|h
 ·
  rw [cZF a b _ q h]
  by_cases hq:j=q
  ·
   subst hq
   rw [List.getElem?_set_self (by rw [bZO];exact h),if_pos (Nat.lt_succ_self _),cZT a b hl,if_pos he]
  ·
   rw [List.getElem?_set_ne hq,cZF a b _ q h]
   by_cases h1:q<j
   · rw [if_pos h1,if_pos (by omega)]
   · rw [if_neg h1,if_neg (by omega)]
 · rw [List.getElem?_eq_none (by rw [List.length_set,bZO];exact h),List.getElem?_eq_none (by rw [bZO];exact h)]
theorem iZc (a b:List Int) (hl:a.length=b.length) (j:Nat) (he:a.getD j 0≠b.getD j 0):eZK a b j=eZK a b (j+1):=by
 apply List.ext_getElem?
 intro q
 rcases Nat.lt_or_ge q a.length with h|h
 ·
  rw [cZF a b _ q h,cZF a b _ q h]
  by_cases hq:j=q
  ·
   subst hq
   rw [if_neg (Nat.lt_irrefl _),if_pos (Nat.lt_succ_self _),cZT a b hl,if_neg he]
  ·
   by_cases h1:q<j
   · rw [if_pos h1,if_pos (by omega)]
   · rw [if_neg h1,if_neg (by omega)]
 · rw [List.getElem?_eq_none (by rw [bZO];exact h),List.getElem?_eq_none (by rw [bZO];exact h)]
theorem iZa (w:World) (va:Value) (A1:Option Addr) (c1:Nat) (a b:List Int) (base:Nat) (ok:Nat→Prop) (ha:(Kd.int .i64).R 3 w base ok va a) (hb:Kd.C (Kd.int .i64) w A1 b.length b) (kb:b.length≤c1) (hl:a.length=b.length) (hn:a.length≤100000) :
 Calls Try.prog 58 #[va,.slice A1 b.length c1] w fun e w'=>∃ v,e=.returned v∧Below w.heap.size w w'∧(v=va∧aZH a b=a∨(Kd.int .i64).R 3 w' w.heap.size (fun _=>True) v (aZH a b)):=by
 obtain ⟨A0,c0,rfl,k0,r0⟩:=Kd.R_reads ha
 have hsi:=dZY a b (by omega) (a.length+1) (Nat.lt_succ_self _)
 have HSI:=hid_ hsi
 have HL:=hid_ hl
 clear ha hsi hl
 go_enter Try.func58,Try.ntmps58
 go_wp2_with (fail)
 refine (show Calls _ _ _ _ _ from berthref21_sameInts.calls _ A0 c0 a A1 c1 b _ w r0 k0 hb kb HSI.out).mono ?_
 rintro e w2 ⟨rfl,hdw⟩
 have hB2:=Drawn0.below_ hdw
 have HR:=hid_ (And.intro r0 hb)
 clear hdw r0 hb HSI
 by_cases hab:a=b
 ·
  have hd:decide (a=b)=true:=decide_eq_true hab
  rw [hd]
  have HAB:=hid_ hab
  clear hab hd
  go_wp2_with (fail)
  go_ret
  exact ⟨_,rfl,hB2,.inl ⟨rfl,by rw [←HAB.out,gZ0]⟩⟩
 ·
  have hd:decide (a=b)=false:=decide_eq_false hab
  have hpos:0<a.length:=by
   rcases Nat.eq_zero_or_pos a.length with h|h
   · exact absurd (by rw [List.eq_nil_of_length_eq_zero h,List.eq_nil_of_length_eq_zero (HL.out.symm.trans h)]) hab
   · exact h
  rw [hd]
  have HB:=hid_ hB2
  clear hd hab hB2
  go_wp2_with ((with_reducible refine cZq (N:=15) rfl ?_);refine Kd.R_make (Kd.int .i64) (w0:=w2) w2.heap.size 3 rfl (N:=15) rfl 23 _ _ rfl (a.length:Int) rfl rfl Try.underlying23 (.int .i64 0) 8 info3 rfl (by decide) (by omega) 0 (ok:=fun _=>True) (okp:=fun _=>True) rfl (fun _ hk=>hk) trivial (by omega) (by omega) (Below.refl _ _) (Nat.le_refl _) ?_;intro v3 w3 hr3 hb3 hg3 hn3;rw [Int.toNat_natCast,←iZb a b] at hr3;obtain ⟨g,cap,hv3,hgl,hglt,-⟩:=Kd.R_form hr3 (by rw [bZO];exact hpos);rw [bZO] at hv3;subst hv3)
  have HB3:=hid_ (HB.out.trans (hb3.mono HB.out.size))
  have HG:=hid_ (And.intro (Kd.R_lower hr3 HB.out.size) (Nat.le_trans HB.out.size hgl))
  clear hb3 hg3 hn3 hr3 hgl hglt HB
  go_loopw [7] (fun i wr=>∃ j:Nat,j≤a.length∧i=.int .i64 j∧(Kd.int .i64).R 3 wr w.heap.size (fun _=>True) (.slice (some ⟨g,0,none⟩) a.length cap) (eZK a b j)∧Below w.heap.size w wr) (fun i _=>a.length - (intOf i).toNat)
  case atStart=>exact ⟨0,by omega,rfl,HG.out.1,HB3.out⟩
  case round =>
   obtain ⟨j,hj,rfl,hX,hBw⟩:=hrel
   by_cases hlt:j<a.length
   ·
    have hbl:j<b.length:=by have:=HL.out;omega
    obtain ⟨ad0,h0,cb0⟩:=Kd.at_int (Kd.C_below HR.out.1 hBw) (j:Int) (by omega) (by omega)
    obtain ⟨ad1,h1,cb1⟩:=Kd.at_int (Kd.C_below HR.out.2 hBw) (j:Int) (by omega) (by omega)
    subst h0
    subst h1
    obtain ⟨ca,fa⟩:=Kd.R_celln (0:Int) hX (j:Int) (by omega) (by omega)
    rw [Int.toNat_natCast] at ca fa cb0 cb1
    have HX:=hid_ hX
    have HBW:=hid_ hBw
    have i0:(0:Int)≤(j:Int):=by omega
    have i1:(j:Int)<(a.length:Int):=by omega
    have i2:(j:Int)<(b.length:Int):=by omega
    have hra:rd a (j:Int)=a.getD j 0:=rfl
    have hrb:rd b (j:Int)=b.getD j 0:=rfl
    rw [hra] at cb0
    rw [hrb] at cb1
    have ew:wrap64 ((j:Int)+1)=((j+1:Nat):Int):=by unfold wrap64;omega
    clear hX hBw hra hrb
    by_cases he:a.getD j 0=b.getD j 0
    ·
     have HM:=hid_ (joinI_set a b HL.out j hlt he)
     rw [←he] at cb1
     clear he
     generalize a.getD j 0=v at ca cb0 cb1 HM
     go_wp2_with (fail)
     go_quiet (fail)
     go_wp2_with (fail)
     have hp:=(Kd.R_putg (Kd.R_drewN HX.out nq) (j:Int) v).1
     rw [Int.toNat_natCast,HM.out] at hp
     go_roundw
     case rel=>exact ⟨j+1,by omega,by go_num,hp,(aZb HBW.out nq).setCell HG.out.2 _⟩
     case measure=>simp [intOf];omega
    ·
     have HM:=hid_ (iZc a b HL.out j he)
     have dne:(a.getD j 0 == b.getD j 0)=false:=by rw [beq_eq_false_iff_ne];exact he
     clear he
     generalize a.getD j 0=v1 at ca cb0 dne
     generalize b.getD j 0=v2 at cb1 dne
     go_wp2_with (fail)
     go_quiet (fail)
     go_wp2_with (fail)
     go_roundw
     case rel=>exact ⟨j+1,by omega,by go_num,by rw [←HM.out];exact Kd.R_drewN HX.out nq,aZb HBW.out nq⟩
     case measure=>simp [intOf];omega
   ·
    have hje:j=a.length:=by omega
    rw [hje,joinI_all a b HL.out] at hX
    have hge:¬(j:Int)<(a.length:Int):=by omega
    clear hlt hje
    go_wp2_with (fail)
    go_ret
    exact ⟨_,rfl,hBw,.inr hX⟩
abbrev kIn:Kd (List Int):=Kd.slice 3 (Kd.int .i64)
abbrev kSt:Kd Pr:=Kd.pair kIn kIn
structure StW (w W:World) (X F:Nat) (A0 A1 A2 A3 A4:Option Addr) (c0 c1 c2 c3 c4:Nat) (g:Pg) (I:Nat→Prop) (vi va vb:Value) (into:List (List Int)) (ahead after:List Pr):Prop where
  st:StL w W X A0 A1 A2 A3 A4 c0 c1 c2 c3 c4 g
  fx:W.heap[F]?=some (rdO 0 0)
  into:Kd.S kIn 23 W w.heap.size I vi into
  ahead:kSt.R 94 W w.heap.size (fun k=>¬I k∧some k≠vb.ownBlock) va ahead
  after:kSt.R 94 W w.heap.size (fun k=>¬I k∧some k≠va.ownBlock) vb after
  lt:∀ k,I k→k<W.heap.size
section
variable {w W W2:World} {X F:Nat} {A0 A1 A2 A3 A4:Option Addr} {c0 c1 c2 c3 c4:Nat} {g:Pg} {I:Nat→Prop} {vi va vb:Value} {into:List (List Int)} {ahead after:List Pr}
theorem StW.next (h:StW w W X F A0 A1 A2 A3 A4 c0 c1 c2 c3 c4 g I vi va vb into ahead after) (hb:Below W.heap.size W W2):StW w W2 X F A0 A1 A2 A3 A4 c0 c1 c2 c3 c4 g I vi va vb into ahead after :=
  ⟨h.st.next hb,aZc h.fx hb,Kd.S_below h.into hb,Kd.R_below h.ahead hb,Kd.R_below h.after hb,fun k hk=>Nat.lt_of_lt_of_le (h.lt k hk) hb.size⟩
end
def dZc (w:World) (r:Except (Int × Int) (List Pr)) (e:Ending) (w':World):Prop :=
  Below w.heap.size w w' ∧
  match r with
  | .error (i,n)=>e=.returned (.tuple #[.slice none 0 0,rdV n i])
  | .ok l=>∃ v,e=.returned (.tuple #[v,rdV 0 0])∧kSt.R 94 w' w.heap.size (fun _=>True) v l
theorem results31 (tmps:Array Value) (w:World) (P:Nat) (n i:Int) (v:Value) (h2:tmps.getD 2 undef=v) (h3:tmps.getD 3 undef=.pointer (some ⟨P,0,none⟩)) (hP:w.heap[P]?=some (rdO n i)) :
    (results Try.f31 tmps).run Try.prog w=.ok (.tuple #[v,rdV n i]) w:=by
  have hl:=run_loadVar_row (P:=Try.prog) w P 41 41 _ (0,0) _ hP Try.underlying41 rfl (by kernel_rfl)
  have h2':tmps[2]?.getD undef=v:=by simpa using h2
  have h3':tmps[3]?.getD undef=.pointer (some ⟨P,0,none⟩):=by simpa using h3
  simp [results,Try.results31,h2',h3',asAddr,hl]
noncomputable def bZ1 (g:Pg):Except (Int × Int) (List Pr):=gZN g.T.length g.N.length g.S.length g.M.length g.C g.dep g.loc
abbrev KP (g:Pg):Wk:=K0 g.T.length g.N.length g.S.length g.M.length g.C g.dep g.loc
structure Inv (w W:World) (X F:Nat) (A0 A1 A2 A3 A4:Option Addr) (c0 c1 c2 c3 c4:Nat) (g:Pg) (i:Nat) (I:Nat→Prop) (vi va vb:Value) (into:List (List Int)) (ahead after:List Pr):Prop where
  sw:StW w W X F A0 A1 A2 A3 A4 c0 c1 c2 c3 c4 g I vi va vb into ahead after
  le:i≤g.C.length
  la:after.length=i
  lah:ahead.length=i
  lin:into.length=g.C.length
  inlt:∀ t:Nat,∀ q∈into.getD t [],0≤q∧q<i
  inlen:∀ t:Nat,(into.getD t []).length≤i
  good:∀ a∈after,eZ0 g.loc.toNat a∧(a.1.length:Int)≤g.dep
  res:bZ1 g=refL (KP g) (g.C.length - i) i after into ahead
theorem cZP {w W:World} {X:Nat} {r:Except (Int × Int) (List Pr)} {n i:Int} (hB:Below w.heap.size w W) (hX:w.heap.size≤X) (h:r=.error (i,n)):dZc w r (.returned (.tuple #[.slice none 0 0,rdV n i])) (W.setRow X (rdC n i)):=by
  subst h
  exact ⟨below_setRow hB hX _,rfl⟩
theorem info23_:(Try.prog.info? 23).map (fun i=>(i.zero,i.size,i.bytes))=some (some (.slice none 0 0),1,24):=by kernel_rfl
theorem info94_:(Try.prog.info? 94).map (fun i=>(i.zero,i.size,i.bytes))=some (some (.agg #[.slice none 0 0,.slice none 0 0]),2,48):=by kernel_rfl
theorem inv_start {w W:World} {X F:Nat} {A0 A1 A2 A3 A4:Option Addr} {c0 c1 c2 c3 c4:Nat} {g:Pg} {vi:Value} (h:StL w W X A0 A1 A2 A3 A4 c0 c1 c2 c3 c4 g) (hF:W.heap[F]?=some (rdO 0 0)) (N:Nat) (hi:Kd.S kIn 23 W w.heap.size (fun k=>N≤k) vi (List.replicate g.C.length []))
 (hD:¬aZB g.T.length g.N.length g.S.length g.M.length g.C g.dep g.loc) (hn:¬g.C.length=0) :
 Inv w W X F A0 A1 A2 A3 A4 c0 c1 c2 c3 c4 g 0 (fun k=>N≤k∧k<W.heap.size) vi (.slice none 0 0) (.slice none 0 0) (List.replicate g.C.length []) [] []:=by
 have hr:∀ t:Nat,(List.replicate g.C.length ([]:List Int)).getD t []=[]:=fun t=>by rw [List.getD_eq_getElem?_getD,List.getElem?_replicate];split <;> rfl
 refine ⟨⟨h,hF,Kd.S_mono (Kd.S_bound hi) (fun k hk=>⟨hk.1,hk.2.2.1⟩),Kd.R_nil _ _ _ _ _,Kd.R_nil _ _ _ _ _,fun k hk=>hk.2⟩,Nat.zero_le _,rfl,rfl,by simp,fun t q hq=>?_,fun t=>?_,by simp,?_⟩
 · rw [hr] at hq;cases hq
 · rw [hr];exact Nat.le_refl _
 ·
  unfold bZ1 gZN
  rw [if_neg hD,if_neg hn]
  rfl
section
variable {w W W2:World} {X F:Nat} {A0 A1 A2 A3 A4:Option Addr} {c0 c1 c2 c3 c4:Nat} {g:Pg} {i:Nat} {I:Nat→Prop} {vi va vb:Value} {into:List (List Int)} {ahead after:List Pr}
theorem Inv.next (h:Inv w W X F A0 A1 A2 A3 A4 c0 c1 c2 c3 c4 g i I vi va vb into ahead after) (hb:Below W.heap.size W W2):Inv w W2 X F A0 A1 A2 A3 A4 c0 c1 c2 c3 c4 g i I vi va vb into ahead after :=
  ⟨h.sw.next hb,h.le,h.la,h.lah,h.lin,h.inlt,h.inlen,h.good,h.res⟩
end
theorem into_at {W:World} {base:Nat} {ok:Nat→Prop} {ad:Addr} {n c:Nat} {into:List (List Int)} (h:Kd.S kIn 23 W base ok (.slice (some ad) n c) into) (p:Nat) (hp:p<n) :
    ∃ Ar cr,W.cell? (ad.add p)=some (.slice Ar (into.getD p []).length cr)∧(into.getD p []).length≤cr∧Kd.C (Kd.int .i64) W Ar (into.getD p []).length (into.getD p []):=by
  obtain ⟨hn,-,hC⟩:=Kd.S_reads' h
  obtain ⟨ad2,cs,he,-,⟨Ar,cr,rfl,hl,hC⟩,hc⟩:=Kd.C_get hC [] (p:Int) (by omega) (by omega)
  injection he with he
  subst he
  have h0:=hc 0 _ rfl
  rw [Int.toNat_natCast] at h0 hl hC
  rw [show p*kIn.sz+0=p by simp [kIn,Kd.slice]] at h0
  exact ⟨Ar,cr,h0,hl,hC⟩
theorem st_at {W:World} {base:Nat} {ok:Nat→Prop} {v:Value} {l:List Pr} (h:kSt.R 94 W base ok v l) (p:Nat) (hp:p<l.length) :
    ∃ ad c v1 v2,v=.slice (some ad) l.length c∧W.cell? (ad.add (p*2))=some v1∧W.cell? ⟨(ad.add (p*2)).block,(ad.add (p*2)).off+1,none⟩=some v2∧(Kd.int .i64).R 3 W base ok v1 (l.getD p ([],[])).1∧(Kd.int .i64).R 3 W base ok v2 (l.getD p ([],[])).2:=by
  obtain ⟨gb,cap,rfl,-,-,-⟩:=Kd.R_form h (by omega)
  obtain ⟨c,hcl,hM,hc⟩:=Kd.R_getA h ([],[]) (p:Int) (by omega) (by omega)
  rw [Int.toNat_natCast] at hM hc
  obtain ⟨q0,q1,rfl,⟨v1,rfl,r1⟩,⟨v2,rfl,r2⟩⟩:=hM
  have h0:=hc 0 v1 rfl
  have h1:=hc 1 v2 rfl
  rw [show kSt.sz=2 from rfl] at h0 h1
  refine ⟨⟨gb,0,none⟩,cap,v1,v2,rfl,h0,?_,Kd.R_mono r1 (fun _ hk=>hk.1),Kd.R_mono r2 (fun _ hk=>hk.1)⟩
  rw [←cZO _ _ 1 (by omega)]
  exact h1
theorem aZk (W:World) (F:Nat) (cs:Array Value) (k:Nat) (h:k≠F):(W.setRow F cs).heap[k]?=W.heap[k]?:=by
 have:=(below_setRow (B:=F) (Below.refl F W) (Nat.le_refl _) cs)
 rcases Nat.lt_or_ge k F with hk|hk
 · exact this.block k hk
 ·
  unfold World.setRow
  simp [Array.getElem?_modify,Ne.symm h]
theorem hZW {W:World} {base F:Nat} {ok:Nat→Prop} {v:Value} {l:List Pr} {cs:Array Value} (h:kSt.R 94 W base ok v l) (hF:W.heap[F]?=some (rdO 0 0)):kSt.R 94 (W.setRow F cs) base (fun _=>True) v l :=
  Kd.R_mono (Kd.R_step (Kd.R_types h hF (by decide)) (fun k hk _=>aZk W F cs k hk.2)) (fun _ _=>trivial)
theorem into_at' {W:World} {base gi:Nat} {ok:Nat→Prop} {n c:Nat} {into:List (List Int)} (h:Kd.S kIn 23 W base ok (.slice (some ⟨gi,0,none⟩) n c) into) (p:Nat) (hp:p<n) :
    ∃ Ar cr,W.cell? ⟨gi,p,none⟩=some (.slice Ar (into.getD p []).length cr)∧(into.getD p []).length≤cr∧Kd.C (Kd.int .i64) W Ar (into.getD p []).length (into.getD p []):=by
  have h2:=into_at h p hp
  rw [add_at,Nat.zero_add] at h2
  exact h2
def SBox (w W:World) (I:Nat→Prop) (bs:Nat) (s:Pr):Prop :=
  ∃ A1 c1 A2 c2,W.heap[bs]?=some (.cells #[.slice A1 s.1.length c1,.slice A2 s.2.length c2] 94 (0,0))∧(Kd.int .i64).R 3 W w.heap.size (fun k=>¬I k) (.slice A1 s.1.length c1) s.1∧(Kd.int .i64).R 3 W w.heap.size (fun k=>¬I k) (.slice A2 s.2.length c2) s.2
theorem set2_R {W:World} {base Z:Nat} {ok:Nat→Prop} {v a b x0 x1:Value} {l:List Int} (h:(Kd.int .i64).R 3 W base ok v l) (hZ:W.heap[Z]?=some (.cells #[x0,x1] 94 (0,0))):(Kd.int .i64).R 3 ((W.setCell ⟨Z,0,none⟩ a).setCell ⟨Z,1,none⟩ b) base ok v l:=by
  have h1:=Kd.R_set h hZ (by decide) 0 a
  have g1:(W.setCell ⟨Z,0,none⟩ a).heap[Z]?=some (.cells #[a,x1] 94 (0,0)):=by simp [World.setCell,hZ,Array.getElem?_modify]
  exact Kd.R_set h1 g1 (by decide) 1 _
theorem SBox.set2 {w W:World} {I:Nat→Prop} {bs:Nat} {x0 x1:Value} {s:Pr} {A1 A2:Option Addr} {c1 c2:Nat} (hZ:W.heap[bs]?=some (.cells #[x0,x1] 94 (0,0))) (h1:(Kd.int .i64).R 3 W w.heap.size (fun k=>¬I k) (.slice A1 s.1.length c1) s.1) (h2:(Kd.int .i64).R 3 W w.heap.size (fun k=>¬I k) (.slice A2 s.2.length c2) s.2) :
    SBox w ((W.setCell ⟨bs,0,none⟩ (.slice A1 s.1.length c1)).setCell ⟨bs,1,none⟩ (.slice A2 s.2.length c2)) I bs s :=
  ⟨A1,c1,A2,c2,bZV _ _ _ _ ⟨_,_,hZ⟩,set2_R h1 hZ,set2_R h2 hZ⟩
theorem hZw {w W W2:World} {I:Nat→Prop} {v:Value} {l:List Int} (h:(Kd.int .i64).R 3 W2 W.heap.size (fun _=>True) v l) (hI:∀ k,I k→k<W.heap.size) (hw:w.heap.size≤W.heap.size):(Kd.int .i64).R 3 W2 w.heap.size (fun k=>¬I k) v l :=
  Kd.R_mono (Kd.R_lower (Kd.R_bound h) hw) (fun k hk hi=>by have:=hI k hi;have:=hk.2.1;omega)
theorem hZt {W:World} {base:Nat} {ok I:Nat→Prop} {v:Value} {l:List Pr} (h:kSt.R 94 W base ok v l) (hok:∀ k,ok k→¬I k) (p:Nat) (hp:p<l.length) :
    ∃ ad c A1 c1 A2 c2,v=.slice (some ad) l.length c∧W.cell? (ad.add (p*2))=some (.slice A1 (l.getD p ([],[])).1.length c1)∧W.cell? ⟨(ad.add (p*2)).block,(ad.add (p*2)).off+1,none⟩=some (.slice A2 (l.getD p ([],[])).2.length c2)∧(Kd.int .i64).R 3 W base (fun k=>¬I k) (.slice A1 (l.getD p ([],[])).1.length c1) (l.getD p ([],[])).1∧(Kd.int .i64).R 3 W base (fun k=>¬I k) (.slice A2 (l.getD p ([],[])).2.length c2) (l.getD p ([],[])).2:=by
  obtain ⟨ad,c,v1,v2,h0,h1,h2,r1,r2⟩:=st_at h p hp
  obtain ⟨A1,c1,rfl⟩:=Kd.R_slice r1
  obtain ⟨A2,c2,rfl⟩:=Kd.R_slice r2
  exact ⟨ad,c,A1,c1,A2,c2,h0,h1,h2,Kd.R_mono r1 hok,Kd.R_mono r2 hok⟩
def gZM (g:Pg) (s:Pr):Prop:=eZ0 g.loc.toNat s∧s.1.length≤128
theorem from_good {w W:World} {X F:Nat} {A0 A1 A2 A3 A4:Option Addr} {c0 c1 c2 c3 c4:Nat} {g:Pg} {i:Nat} {I:Nat→Prop} {vi va vb:Value} {into:List (List Int)} {ahead after:List Pr} (h:Inv w W X F A0 A1 A2 A3 A4 c0 c1 c2 c3 c4 g i I vi va vb into ahead after) (hd:g.dep≤128):(∀ p,p<i→gZM g (after.getD p ([],[])))∧gZM g (dZp g.loc after i):=by
 have h1:∀ p,p<i→gZM g (after.getD p ([],[])):=fun p hp=>by
  have hl:p<after.length:=by rw [h.la];exact hp
  rw [List.getD_eq_getElem?_getD,List.getElem?_eq_getElem hl]
  have:=h.good _ (List.getElem_mem hl)
  exact ⟨this.1,by have:=this.2;show after[p].1.length≤128;omega⟩
 refine ⟨h1,?_⟩
 unfold dZp
 split
 · exact ⟨⟨by simp,by intro c hc;rw [List.eq_of_mem_replicate hc];exact Int.le_refl _⟩,by simp⟩
 · exact h1 _ (by omega)
theorem SBox.set1 {w W:World} {I:Nat→Prop} {bs:Nat} {x1:Value} {s1 s2:List Int} {A1 A2:Option Addr} {c1 c2:Nat} (hZ:W.heap[bs]?=some (.cells #[.slice A1 s1.length c1,x1] 94 (0,0))) (h1:(Kd.int .i64).R 3 W w.heap.size (fun k=>¬I k) (.slice A1 s1.length c1) s1) (h2:(Kd.int .i64).R 3 W w.heap.size (fun k=>¬I k) (.slice A2 s2.length c2) s2) :
    SBox w (W.setCell ⟨bs,1,none⟩ (.slice A2 s2.length c2)) I bs (s1,s2) :=
  ⟨A1,c1,A2,c2,by simp [World.setCell,hZ,Array.getElem?_modify],Kd.R_set h1 hZ (by decide) 1 _,Kd.R_set h2 hZ (by decide) 1 _⟩
theorem iZo {x:S66} {stk loc:List Int} {n:Int} (h:aZS x stk loc=.error n):n≠0:=by
 unfold aZS at h
 split at h
 ·
  split at h
  ·
   rename_i e he
   injection h with h
   subst h
   exact hZF he
  · cases h
 ·
  split at h
  · injection h with h;omega
  ·
   split at h
   · injection h with h;omega
   · cases h
theorem gZ9 {k:Wk} {i:Nat} (h:bZi k i=0):1≤(aZi k.C i).f0∧(aZi k.C i).f0≤36∧((aZi k.C i).f0=31∨(aZi k.C i).f0=32→0≤(aZi k.C i).f1∧(aZi k.C i).f1<k.loc):=by
 obtain ⟨f1,f2,f3,-⟩:=dZO h
 refine ⟨f1,f2,fun hj=>f3 ?_⟩
 rcases hj with hj|hj
 · rw [hj];exact rowsL_l.1
 · rw [hj];exact rowsL_l.2
theorem drop_at {l:List Int} {kk p:Nat} (h:kk<l.length) (hp:rd l (kk:Int)=(p:Int)):l.drop kk=(p:Int) :: l.drop (kk+1)∧(p:Int)∈l:=by
  have he:l[kk]=(p:Int):=by
    rw [←hp]
    simp [rd,List.getD_eq_getElem?_getD,List.getElem?_eq_getElem h]
  refine ⟨?_,by rw [←he];exact List.getElem_mem h⟩
  rw [List.drop_eq_getElem_cons h,he]
theorem rd_mem {l:List Int} {kk:Nat} (h:kk<l.length):rd l (kk:Int)∈l:=by
  have he:rd l (kk:Int)=l[kk]:=by simp [rd,List.getD_eq_getElem?_getD,List.getElem?_eq_getElem h]
  rw [he]
  exact List.getElem_mem h
theorem gZY {g:Pg} {s t:Pr} (hs:gZM g s) (ht:gZM g t):gZM g (s.1,aZH s.2 t.2):=⟨fZl hs.1 ht.1.1,hs.2⟩
end Go.Proofs.Ytbnplhmmbnmagaa.D
