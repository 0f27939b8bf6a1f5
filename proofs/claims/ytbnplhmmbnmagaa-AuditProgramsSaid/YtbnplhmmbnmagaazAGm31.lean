/- The document's audit, plain: what an instruction leaves, by its table; its walk over all places. -/
import Derived.Test.YtbnplhmmbnmagaazAGm30
import Derived.Test.YtbnplhmmbnmagaazAGm10
import Derived.Test.YtbnplhmmbnmagaazAGm11
set_option maxHeartbeats 4000000
set_option maxRecDepth 100000
set_option linter.unusedVariables false
set_option linter.unusedSimpArgs false
namespace Go.Proofs.Ytbnplhmmbnmagaa.D
open Go.RowKit Go.Proofs.YtbnplhmmbnmagaaW.PrintWords Go.Proofs.YtbnplhmmbnmagaaW.PrintLast Go.Proofs.YtbnplhmmbnmagaaW.PrintMore Go.Proofs.Ytbnplhmmbnmagaa.All
def effF (op a:Int):List Int × Int:=(berthref21_Effect.f 8 op a).getD ([],0)
def cZd (p:Int):List Int:=if 0<p then [p] else []
def cZU (x:S66) (stk loc:List Int):Except Int (Nat × Int) :=
  if x.f0=27∨x.f0=28∨x.f0=29 then
    if stk.length<2 then .error 214
    else if ¬(stk.getD (stk.length - 1) 0=1∨stk.getD (stk.length - 1) 0=2)∨stk.getD (stk.length - 2) 0≠stk.getD (stk.length - 1) 0 then .error 215
    else .ok (2,stk.getD (stk.length - 1) 0)
  else if x.f0=32 then
    if loc.getD x.f1.toNat 0=0 then .error 217 else .ok (0,loc.getD x.f1.toNat 0)
  else if stk.length<1 then .error 214
  else if x.f0=35 then .ok (1,0)
  else if ¬(stk.getD (stk.length - 1) 0=1∨stk.getD (stk.length - 1) 0=2) then .error 215
  else if x.f0=31 then .ok (1,0)
  else .ok (1,stk.getD (stk.length - 1) 0)
def aZS (x:S66) (stk loc:List Int):Except Int (List Int × List Int) :=
  if 27≤x.f0∧x.f0≤35 then
    match cZU x stk loc with
    | .error e=>.error e
    | .ok (n,p)=>.ok (stk.take (stk.length - n)++cZd p,if x.f0=31 then loc.set x.f1.toNat (stk.getD (stk.length - 1) 0) else loc)
  else if stk.length<(effF x.f0 x.f1).1.length then .error 214
  else if stk.drop (stk.length - (effF x.f0 x.f1).1.length)≠(effF x.f0 x.f1).1 then .error 215
  else .ok (stk.take (stk.length - (effF x.f0 x.f1).1.length)++cZd (effF x.f0 x.f1).2,loc)
def dZ6 (r:S165) (x:S66) (stk loc:List Int):Except Int (List Int × List Int) :=
  if stk.length<r.f1.size then .error 214
  else if aZx stk (stk.length - r.f1.size) r.f1 (aZL stk (stk.length - r.f1.size) r.f1.size) r.f1.size 0=false then .error 215
  else putF r.f2 x (stk.take (stk.length - r.f1.size)) loc (aZL stk (stk.length - r.f1.size) r.f1.size)
theorem step_core (dep:Int) (r:S165) (x:S66) (s:St):aZ3 dep r x s=endF dep x s.joined (dZ6 r x s.stk s.loc):=by
 unfold aZ3 dZ6
 split
 · rfl
 ·
  split
  · rfl
  · rfl
theorem gZp (stk:List Int) (frm:Nat) (t:ByteArray) (first:Int):∀ (d j:Nat),(∀ q,j≤q→q<j+d→fitF (stk.getD (frm+q) 0) (bt t q) first=true)→aZx stk frm t first d j=true
  | 0,j,_=>rfl
  | d+1,j,h=>by
    rw [aZx,if_neg (by rw [h j (by omega) (by omega)];decide)]
    exact gZp stk frm t first d (j+1) (fun q h1 h2=>h q (by omega) (by omega))
theorem dZM (t:ByteArray):(cZo t).length=t.size:=by unfold cZo;simp
theorem dZN (t:ByteArray) (q:Nat) (h:q<t.size):(cZo t)[q]?=some (bZV (bt t q) 0):=by
  unfold cZo
  rw [List.getElem?_map,List.getElem?_range h]
  rfl
theorem eZy (t:ByteArray) (stk:List Int) (first:Int) (hp:∀ j,j<t.size→bt t j≠42∧bt t j≠66) (hl:t.size≤stk.length) :
 (aZx stk (stk.length - t.size) t first t.size 0=true↔stk.drop (stk.length - t.size)=cZo t):=by
 constructor
 ·
  intro h
  have hfit:=fZu _ _ _ _ _ _ h
  apply List.ext_getElem?
  intro q
  rw [List.getElem?_drop]
  rcases Nat.lt_or_ge q t.size with hq|hq
  ·
   obtain ⟨p1,p2⟩:=hp q hq
   have hf:=hfit q (Nat.zero_le _) (by omega)
   unfold fitF at hf
   rw [if_neg p1,if_neg p2] at hf
   have hlt:stk.length - t.size+q<stk.length:=by omega
   rw [dZN t q hq,List.getElem?_eq_getElem hlt]
   simp only [List.getD_eq_getElem?_getD,List.getElem?_eq_getElem hlt] at hf
   simpa using hf
  · rw [List.getElem?_eq_none (by omega),List.getElem?_eq_none (by rw [dZM];exact hq)]
 ·
  intro h
  apply gZp
  intro q _ hq
  rw [Nat.zero_add] at hq
  obtain ⟨p1,p2⟩:=hp q hq
  unfold fitF
  rw [if_neg p1,if_neg p2]
  have h2:=dZN t q hq
  rw [←h,List.getElem?_drop] at h2
  rw [List.getD_eq_getElem?_getD,h2]
  simp
theorem eff_rows (op a:Int) (h1:1≤op) (h2:op≤26) (ha:bt (aZm rowsL op).f0 0=117→a=0∨a=1) :
 effF op a=(cZo (aZm rowsL op).f1,bZV (bt (aZm rowsL op).f2 0) a)∧0<bZV (bt (aZm rowsL op).f2 0) a:=by
 have hop:op=1∨op=2∨op=3∨op=4∨op=5∨op=6∨op=7∨op=8∨op=9∨op=10∨op=11∨op=12∨op=13∨op=14∨op=15∨op=16∨op=17∨op=18∨op=19∨op=20∨op=21∨op=22∨op=23∨op=24∨op=25∨op=26:=by omega
 have pos:∀ c,(c≠85→0≤cZu c)→(c=85→a=0∨a=1)→0<bZV c a:=by
  intro c h ha
  by_cases hc:c=85
  ·
   subst hc
   rw [cell_u]
   rcases ha rfl with rfl|rfl <;> decide +kernel
  ·
   have:=h hc
   unfold bZV
   rw [if_pos this]
   omega
 rcases hop with rfl|rfl|rfl|rfl|rfl|rfl|rfl|rfl|rfl|rfl|rfl|rfl|rfl|rfl|rfl|rfl|rfl|rfl|rfl|rfl|rfl|rfl|rfl|rfl|rfl|rfl
 all_goals refine ⟨?_,pos _ (by decide +kernel) (fun h=>?_)⟩
 all_goals first|exact ha rfl|exact absurd h (by decide +kernel)|exact congrArg (Option.getD · ([],0)) (eff_u rfl rfl)|exact congrArg (Option.getD · ([],0)) (show berthref21_Effect.f 8 _ a=some _ from rfl)|rfl
theorem eZC (x:S66) (r:S165) (stk loc:List Int) (h27:¬(27≤x.f0∧x.f0≤35)) (hp:∀ j,j<r.f1.size→bt r.f1 j≠42∧bt r.f1 j≠66) (he:(effF x.f0 x.f1).1=cZo r.f1) (hput:∀ first,putF r.f2 x (stk.take (stk.length - r.f1.size)) loc first=.ok (stk.take (stk.length - r.f1.size)++cZd (effF x.f0 x.f1).2,loc)) :
 dZ6 r x stk loc=aZS x stk loc:=by
 unfold dZ6 aZS
 rw [if_neg h27,he,dZM]
 by_cases hl:stk.length<r.f1.size
 · rw [if_pos hl,if_pos hl]
 ·
  rw [if_neg hl,if_neg hl]
  by_cases hd:stk.drop (stk.length - r.f1.size)=cZo r.f1
  ·
   rw [if_neg (by rw [(eZy r.f1 stk _ hp (by omega)).2 hd];decide),if_neg (fun h=>h hd)]
   exact hput _
  ·
   rw [if_pos,if_pos hd]
   cases hq:aZx stk (stk.length - r.f1.size) r.f1 (aZL stk (stk.length - r.f1.size) r.f1.size) r.f1.size 0 with
   | false=>rfl
   | true=>exact absurd ((eZy r.f1 stk _ hp (by omega)).1 hq) hd
theorem fZZ (c first:Int):fitF c 66 first=decide ((c=1∨c=2)∧c=first):=by unfold fitF;rw [if_neg (by decide),if_pos rfl]
theorem fitF_42 (c first:Int):fitF c 42 first=true:=if_pos rfl
theorem cZN (stk:List Int) (f n:Nat) (h:0<n):aZL stk f n=stk.getD f 0:=if_pos h
theorem fits_two (stk:List Int) (h:2≤stk.length):aZx stk (stk.length - 2) ⟨#[66,66]⟩ (aZL stk (stk.length - 2) 2) 2 0=decide ((stk.getD (stk.length - 1) 0=1∨stk.getD (stk.length - 1) 0=2)∧stk.getD (stk.length - 2) 0=stk.getD (stk.length - 1) 0):=by
 have e0:bt ⟨#[66,66]⟩ ((0:Nat):Int)=66:=by decide
 have e1:bt ⟨#[66,66]⟩ ((1:Nat):Int)=66:=by decide
 rw [aZx,aZx,aZx,e0,Nat.zero_add,e1,fZZ,fZZ,cZN _ _ _ (by decide),Nat.add_zero,show stk.length - 2+1=stk.length - 1 by omega]
 generalize stk.getD (stk.length - 1) 0=a
 generalize stk.getD (stk.length - 2) 0=b
 by_cases hab:b=a
 ·
  subst hab
  by_cases hb:b=1∨b=2 <;> simp [hb]
 ·
  have hba:¬a=b:=fun h=>hab h.symm
  by_cases hb:b=1∨b=2 <;> simp [hb,hab,hba]
theorem fits_one (stk:List Int) (h:1≤stk.length):aZx stk (stk.length - 1) ⟨#[66]⟩ (aZL stk (stk.length - 1) 1) 1 0=decide (stk.getD (stk.length - 1) 0=1∨stk.getD (stk.length - 1) 0=2):=by
 have e0:bt ⟨#[66]⟩ ((0:Nat):Int)=66:=by decide
 rw [aZx,aZx,e0,fZZ,cZN _ _ _ (by decide),Nat.add_zero]
 generalize stk.getD (stk.length - 1) 0=a
 by_cases hb:a=1∨a=2 <;> simp [hb]
theorem fZ4 (x:S66) (stk loc:List Int) (h1:1≤x.f0) (h2:x.f0≤36) (hu:bt (aZm rowsL x.f0).f0 0=117→x.f1=0∨x.f1=1) (hn:0≤loc.getD x.f1.toNat 0):dZ6 (aZm rowsL x.f0) x stk loc=aZS x stk loc:=by
 by_cases h26:x.f0≤26
 ·
  obtain ⟨e1,e2,e3,e4,e5,e6,e7,e8⟩:=fZ1 x.f0 x.f1 h1 h26 hu
  obtain ⟨q1,q2⟩:=eff_rows x.f0 x.f1 h1 h26 hu
  refine eZC x _ stk loc (by omega) e2 (by rw [q1]) (fun first=>?_)
  unfold putF
  rw [if_neg e3,if_neg e4,if_neg e5,q1]
  unfold cZd
  rw [if_pos q2]
 by_cases h36:x.f0=36
 ·
  have hr1:(aZm rowsL x.f0).f1=⟨#[78]⟩:=by rw [h36];decide +kernel
  have hr2:(aZm rowsL x.f0).f2=⟨#[]⟩:=by rw [h36];decide +kernel
  have he:effF x.f0 x.f1=([1],0):=by rw [h36];rfl
  refine eZC x _ stk loc (by omega) (by rw [hr1];decide) (by rw [he,hr1];decide) (fun first=>?_)
  unfold putF
  rw [hr2,if_pos rfl,if_neg (by omega),he]
  simp [cZd]
 have h27:27≤x.f0∧x.f0≤35:=by omega
 have two:(x.f0=27∨x.f0=28∨x.f0=29)→(aZm rowsL x.f0).f1=⟨#[66,66]⟩→(aZm rowsL x.f0).f2=⟨#[61]⟩→dZ6 (aZm rowsL x.f0) x stk loc=aZS x stk loc:=by
  intro h r1 r2
  unfold dZ6 aZS cZU
  rw [r1,r2,show ByteArray.size ⟨#[66,66]⟩=2 from rfl,if_pos h27,if_pos h]
  by_cases hl:stk.length<2
  · rw [if_pos hl,if_pos hl]
  ·
   rw [if_neg hl,if_neg hl,fits_two stk (by omega),cZN _ _ _ (by decide)]
   generalize stk.getD (stk.length - 1) 0=a
   generalize stk.getD (stk.length - 2) 0=b
   by_cases hq:(a=1∨a=2)∧b=a
   ·
    rw [if_neg (by simpa using hq),if_neg (by rintro (g|g);exact g hq.1;exact g hq.2)]
    obtain ⟨q1,rfl⟩:=hq
    unfold putF cZd
    rw [if_neg (by decide),if_pos rfl]
    dsimp only
    rw [if_pos (by omega),if_neg (by omega)]
   ·
    rw [if_pos (by simpa using hq),if_pos (by
     by_cases g:a=1∨a=2
     · exact .inr (fun g2=>hq ⟨g,g2⟩)
     · exact .inl g)]
 have one:(aZm rowsL x.f0).f1=⟨#[66]⟩→x.f0≠35→¬(x.f0=27∨x.f0=28∨x.f0=29)→x.f0≠32→(∀ a,(a=1∨a=2)→putF (aZm rowsL x.f0).f2 x (stk.take (stk.length - 1)) loc a=.ok (stk.take (stk.length - 1)++cZd (if x.f0=31 then 0 else a),if x.f0=31 then loc.set x.f1.toNat a else loc))→dZ6 (aZm rowsL x.f0) x stk loc=aZS x stk loc:=by
  intro r1 n35 n27 n32 hput
  unfold dZ6 aZS cZU
  rw [r1,show ByteArray.size ⟨#[66]⟩=1 from rfl,if_pos h27,if_neg n27,if_neg n32,if_neg n35]
  by_cases hl:stk.length<1
  · rw [if_pos hl,if_pos hl]
  ·
   rw [if_neg hl,if_neg hl,fits_one stk (by omega),cZN _ _ _ (by decide)]
   have hput:=hput (stk.getD (stk.length - 1) 0)
   generalize stk.getD (stk.length - 1) 0=a at hput ⊢
   by_cases hq:a=1∨a=2
   ·
    rw [if_neg (by rw [decide_eq_true hq];decide),if_neg (fun g=>g hq),hput hq]
    by_cases h31:x.f0=31
    · simp only [if_pos h31]
    · simp only [if_neg h31]
   · rw [if_pos (decide_eq_false hq),if_pos hq]
 have hcases:x.f0=27∨x.f0=28∨x.f0=29∨x.f0=30∨x.f0=31∨x.f0=32∨x.f0=33∨x.f0=34∨x.f0=35:=by omega
 have puts:x.f0≠31→(aZm rowsL x.f0).f2=⟨#[61]⟩→∀ a,(a=1∨a=2)→putF (aZm rowsL x.f0).f2 x (stk.take (stk.length - 1)) loc a=.ok (stk.take (stk.length - 1)++cZd (if x.f0=31 then 0 else a),if x.f0=31 then loc.set x.f1.toNat a else loc):=by
  intro h r2 a ha
  unfold putF cZd
  rw [r2,if_neg (by decide),if_pos rfl,if_neg h,if_neg h,if_pos (by omega)]
 rcases hcases with h|h|h|h|h|h|h|h|h
 · exact two (by omega) (by rw [h];decide +kernel) (by rw [h];decide +kernel)
 · exact two (by omega) (by rw [h];decide +kernel) (by rw [h];decide +kernel)
 · exact two (by omega) (by rw [h];decide +kernel) (by rw [h];decide +kernel)
 · exact one (by rw [h];decide +kernel) (by omega) (by omega) (by omega) (puts (by omega) (by rw [h];decide +kernel))
 ·
  refine one (by rw [h];decide +kernel) (by omega) (by omega) (by omega) (fun a ha=>?_)
  have hr2:(aZm rowsL x.f0).f2=⟨#[]⟩:=by rw [h];decide +kernel
  unfold putF cZd
  rw [hr2,if_pos rfl,if_pos h,if_pos h,if_neg (by decide),List.append_nil]
 ·
  have hr1:(aZm rowsL x.f0).f1=⟨#[]⟩:=by rw [h];decide +kernel
  have hr2:(aZm rowsL x.f0).f2=⟨#[76]⟩:=by rw [h];decide +kernel
  unfold dZ6 aZS cZU
  have n27:¬(x.f0=27∨x.f0=28∨x.f0=29):=by omega
  rw [hr1,hr2,show ByteArray.size ⟨#[]⟩=0 from rfl,if_pos h27,if_neg n27,if_pos h,if_neg (Nat.not_lt_zero _),aZx,if_neg (by decide)]
  unfold putF
  rw [if_neg (by decide),if_neg (by decide),if_pos rfl]
  by_cases hz:loc.getD x.f1.toNat 0=0
  · rw [if_pos hz,if_pos hz]
  ·
   rw [if_neg hz,if_neg hz]
   unfold cZd
   dsimp only
   rw [if_pos (by omega),if_neg (by omega)]
 · exact one (by rw [h];decide +kernel) (by omega) (by omega) (by omega) (puts (by omega) (by rw [h];decide +kernel))
 · exact one (by rw [h];decide +kernel) (by omega) (by omega) (by omega) (puts (by omega) (by rw [h];decide +kernel))
 ·
  have hr1:(aZm rowsL x.f0).f1=⟨#[42]⟩:=by rw [h];decide +kernel
  have hr2:(aZm rowsL x.f0).f2=⟨#[]⟩:=by rw [h];decide +kernel
  unfold dZ6 aZS cZU
  have n27:¬(x.f0=27∨x.f0=28∨x.f0=29):=by omega
  have n32:¬x.f0=32:=by omega
  rw [hr1,hr2,show ByteArray.size ⟨#[42]⟩=1 from rfl,if_pos h27,if_neg n27,if_neg n32]
  by_cases hl:stk.length<1
  · rw [if_pos hl,if_pos hl]
  ·
   have e0:bt ⟨#[42]⟩ ((0:Nat):Int)=42:=by decide
   rw [if_neg hl,if_neg hl,if_pos h,aZx,aZx,e0,fitF_42,if_neg (by decide)]
   have n31:¬x.f0=31:=by omega
   unfold putF cZd
   rw [if_pos rfl,if_neg n31]
   simp only [if_neg n31]
   rw [if_neg (by decide),List.append_nil]
abbrev Pr:=List Int × List Int
def atP (after:List Pr) (q:Int):Pr:=after.getD q.toNat ([],[])
def dZc (after:List Pr):List Int→Pr→Option Pr
  | [],s=>some s
  | j :: l,s=>if s.1=(atP after j).1 then dZc after l (s.1,aZD s.2 (atP after j).2) else none
def cZT (loc:Int) (after:List Pr) (i:Nat):Pr:=if i=0 then ([],List.replicate loc.toNat 0) else after.getD (i - 1) ([],[])
def endR (dep:Int) (x:S66) (t:Except Int Pr):Except Int Pr :=
  match t with
  | .error e=>.error e
  | .ok t=>if dep<t.1.length then .error 216 else if x.f0=36∧0<t.1.length then .error 219 else .ok t
def cZz (into:List (List Int)) (x:S66) (i:Nat):List (List Int) :=
  if x.f0=33∨x.f0=34 then into.set x.f1.toNat (into.getD x.f1.toNat []++[(i:Int)]) else into
def refL (k:Wk):Nat→Nat→List Pr→List (List Int)→List Pr→Except (Int × Int) (List Pr)
  | 0,_,_,_,ahead=>.ok ahead
  | d+1,i,after,into,ahead =>
    if bZg k i≠0 then .error (i,bZg k i)
    else
      match dZc after (into.getD i []) (cZT k.loc after i) with
      | none=>.error (i,218)
      | some s =>
        match endR k.dep (aZg k.C i) (aZS (aZg k.C i) s.1 s.2) with
        | .error e=>.error (i,e)
        | .ok t=>refL k d (i+1) (after++[t]) (cZz into (aZg k.C i) i) (ahead++[s])
noncomputable def fZE (nT nN nS nM:Nat) (C:List S66) (dep loc:Int):Except (Int × Int) (List Pr) :=
  @ite _ (aZz nT nN nS nM C dep loc) (Classical.propDecidable _) (.error (-1,210)) (if C.length=0 then .error (0,219) else refL (K0 nT nN nS nM C dep loc) C.length 0 [] (List.replicate C.length []) [])
def dZg (r:List Pr):Int:=r.foldl (fun m s=>max m (s.1.length:Int)) 0
theorem eZA (r:List Pr) (s:Pr):dZg (r++[s])=max (dZg r) (s.1.length:Int):=by unfold dZg;rw [List.foldl_append];rfl
def eZU (x y:Int):Int:=if x=y then x else 0
theorem cZL (a b:List Int):aZD a b=List.zipWith eZU a b:=rfl
theorem fZQ (a b:List Int):aZD a b=aZD b a:=by
  rw [cZL,cZL,List.zipWith_comm]
  congr 1
  funext x y
  unfold eZU
  split <;> split <;> omega
theorem mergeL_assoc:∀ (a b c:List Int),aZD (aZD a b) c=aZD a (aZD b c)
  | [],_,_=>rfl
  | _ :: _,[],_=>rfl
  | _ :: _,_ :: _,[]=>rfl
  | x :: a,y :: b,z :: c=>by
    have ih:=mergeL_assoc a b c
    simp only [cZL,List.zipWith_cons_cons] at ih ⊢
    rw [ih]
    congr 1
    unfold eZU
    repeat' split
    all_goals omega
theorem foldl_merge:∀ (l:List (List Int)) (s a:List Int),l.foldl aZD (aZD s a)=aZD (l.foldl aZD a) s
  | [],s,a=>fZQ s a
  | b :: l,s,a=>by
    rw [List.foldl_cons,List.foldl_cons,mergeL_assoc]
    exact foldl_merge l s (aZD a b)
def stA (after:List Pr) (q:Int):St:=⟨(atP after q).1,(atP after q).2,false⟩
def eZX (after:List Pr):List Int→Option St
  | []=>none
  | j :: l=>some (l.foldl (fun o q=>aZB o (stA after q)) (stA after j))
theorem foldO_snoc (after:List Pr) (l:List Int) (q:Int):eZX after (l++[q])=some (match eZX after l with|none=>stA after q|some o=>aZB o (stA after q)):=by
  cases l with
  | nil=>rfl
  | cons j l=>simp only [List.cons_append,eZX,List.foldl_append,List.foldl_cons,List.foldl_nil]
theorem atP_ext (after:List Pr) (t:Pr) (q:Int) (h:q.toNat<after.length):atP (after++[t]) q=atP after q:=by
  unfold atP
  rw [List.getD_eq_getElem?_getD,List.getD_eq_getElem?_getD,List.getElem?_append_left h]
theorem fZs {after:List Pr} {t:Pr}:∀ (l:List Int) (o:St),(∀ q∈l,q.toNat<after.length)→l.foldl (fun o q=>aZB o (stA (after++[t]) q)) o=l.foldl (fun o q=>aZB o (stA after q)) o
  | [],_,_=>rfl
  | q :: l,o,h=>by
    rw [List.foldl_cons,List.foldl_cons]
    have:stA (after++[t]) q=stA after q:=by unfold stA;rw [atP_ext after t q (h q (List.mem_cons_self ..))]
    rw [this]
    exact fZs l _ (fun q hq=>h q (List.mem_cons_of_mem _ hq))
theorem foldO_ext {after:List Pr} {t:Pr} (l:List Int) (h:∀ q∈l,q.toNat<after.length):eZX (after++[t]) l=eZX after l:=by
  cases l with
  | nil=>rfl
  | cons j l =>
    have:stA (after++[t]) j=stA after j:=by unfold stA;rw [atP_ext after t j (h j (List.mem_cons_self ..))]
    simp only [eZX,this]
    rw [fZs l _ (fun q hq=>h q (List.mem_cons_of_mem _ hq))]
theorem fZt (after:List Pr):∀ (l:List Int) (o:St),(l.foldl (fun o q=>aZB o (stA after q)) o).stk=o.stk∧(l.foldl (fun o q=>aZB o (stA after q)) o).loc=(l.map fun q=>(atP after q).2).foldl aZD o.loc∧((l.foldl (fun o q=>aZB o (stA after q)) o).joined=false↔o.joined=false∧∀ q∈l,(atP after q).1=o.stk)
  | [],o=>⟨rfl,rfl,by simp⟩
  | q :: l,o=>by
    obtain ⟨h1,h2,h3⟩:=fZt after l (aZB o (stA after q))
    rw [List.foldl_cons]
    refine ⟨h1,h2,h3.trans ?_⟩
    have e1:(aZB o (stA after q)).stk=o.stk:=rfl
    have e2:(aZB o (stA after q)).joined=(o.joined || !decide (o.stk=(atP after q).1)):=rfl
    rw [e1,e2]
    constructor
    · rintro ⟨g1,g2⟩
      simp at g1
      exact ⟨g1.1,fun z hz=>by rcases List.mem_cons.1 hz with rfl|hz;exact g1.2.symm;exact g2 z hz⟩
    · rintro ⟨g1,g2⟩
      exact ⟨by simp [g1,(g2 q (List.mem_cons_self ..)).symm],fun z hz=>g2 z (List.mem_cons_of_mem _ hz)⟩
theorem fZm (after:List Pr):∀ (l:List Int) (s:Pr),(∀ q∈l,(atP after q).1=s.1)→dZc after l s=some (s.1,(l.map fun q=>(atP after q).2).foldl aZD s.2)
  | [],s,_=>rfl
  | q :: l,s,h=>by
    rw [dZc,if_pos (h q (List.mem_cons_self ..)).symm]
    exact fZm after l (s.1,aZD s.2 (atP after q).2) (fun z hz=>h z (List.mem_cons_of_mem _ hz))
theorem gZn (after:List Pr):∀ (l:List Int) (s:Pr),(¬ ∀ q∈l,(atP after q).1=s.1)→dZc after l s=none
  | [],s,h=>absurd (by simp) h
  | q :: l,s,h=>by
    rw [dZc]
    split
    · rename_i he
      refine gZn after l (s.1,aZD s.2 (atP after q).2) (fun g=>h (fun z hz=>?_))
      rcases List.mem_cons.1 hz with rfl|hz
      · exact he.symm
      · exact g z hz
    · rfl
theorem fZT (after:List Pr) (l:List Int) (s:Pr) (M:List (Int × St)) (i:Int) (h:look M i=eZX after l) :
 ((aZE M i ⟨s.1,s.2,false⟩).joined=true→dZc after l s=none)∧((aZE M i ⟨s.1,s.2,false⟩).joined=false→dZc after l s=some ((aZE M i ⟨s.1,s.2,false⟩).stk,(aZE M i ⟨s.1,s.2,false⟩).loc)):=by
 cases l with
 | nil=>rw [bZK h];exact ⟨fun h=>(by cases h),fun _=>rfl⟩
 | cons j l =>
  rw [bZr h]
  obtain ⟨h1,h2,h3⟩:=fZt after l (stA after j)
  generalize l.foldl (fun o q=>aZB o (stA after q)) (stA after j)=o at h1 h2 h3
  have e1:(aZB o ⟨s.1,s.2,false⟩).joined=(o.joined || !decide (o.stk=s.1)):=rfl
  have e2:(aZB o ⟨s.1,s.2,false⟩).stk=o.stk:=rfl
  have e3:(aZB o ⟨s.1,s.2,false⟩).loc=aZD o.loc s.2:=rfl
  rw [e1,e2,e3]
  have hall:(o.joined || !decide (o.stk=s.1))=false↔∀ q∈j :: l,(atP after q).1=s.1:=by
   rw [Bool.or_eq_false_iff,h3]
   constructor
   ·
    rintro ⟨⟨-,g⟩,g2⟩
    have g2:o.stk=s.1:=by simpa using g2
    intro z hz
    rcases List.mem_cons.1 hz with rfl|hz
    · rw [←g2,h1];rfl
    · rw [g z hz,←h1,g2]
   ·
    intro g
    have gj:=g j (List.mem_cons_self ..)
    have g1:o.stk=s.1:=by rw [h1];exact gj
    exact ⟨⟨rfl,fun z hz=>(g z (List.mem_cons_of_mem _ hz)).trans gj.symm⟩,by simp [g1]⟩
  constructor
  ·
   intro hj
   exact gZn after _ _ (fun g=>by rw [hall.2 g] at hj;cases hj)
  ·
   intro hj
   have g:=hall.1 hj
   rw [fZm after _ _ g,h1,h2]
   have gj:=g j (List.mem_cons_self ..)
   rw [List.map_cons,List.foldl_cons,foldl_merge,←gj]
   rfl
def dZ9 (L:Nat) (a:Pr):Prop:=a.2.length=L∧∀ c∈a.2,0≤c
theorem eZt {L:Nat} {a b:List Int} (ha:a.length=L∧∀ c∈a,0≤c) (hb:b.length=L):(aZD a b).length=L∧∀ c∈aZD a b,0≤c:=by
 refine ⟨by rw [aZ0 a b (by omega)];exact ha.1,?_⟩
 intro c hc
 rw [cZL] at hc
 obtain ⟨n,hn,he⟩:=List.getElem_of_mem hc
 rw [List.getElem_zipWith] at he
 rw [←he]
 unfold eZU
 split
 · exact ha.2 _ (List.getElem_mem _)
 · exact Int.le_refl _
theorem fZl {L:Nat} (after:List Pr):∀ (l:List Int) (s s':Pr),(∀ q∈l,(atP after q).2.length=L)→dZ9 L s→dZc after l s=some s'→dZ9 L s'
  | [],s,s',_,hs,h=>by injection h with h;subst h;exact hs
  | q :: l,s,s',hl,hs,h=>by
    rw [dZc] at h
    split at h
    · exact fZl after l (s.1,aZD s.2 (atP after q).2) s' (fun z hz=>hl z (List.mem_cons_of_mem _ hz)) (eZt hs (hl q (List.mem_cons_self ..))) h
    · cases h
theorem getD_good {L:Nat} {loc:List Int} (h:∀ c∈loc,(0:Int)≤c) (n:Nat):0≤loc.getD n 0:=by
  rw [List.getD_eq_getElem?_getD]
  cases he:loc[n]? with
  | none=>exact Int.le_refl _
  | some c=>exact h c (List.mem_of_getElem? he)
theorem dZ8 {L:Nat} {x:S66} {stk loc:List Int} {t:Pr} (hs:dZ9 L (stk,loc)) (h:aZS x stk loc=.ok t):dZ9 L t:=by
 unfold aZS at h
 split at h
 ·
  split at h
  · cases h
  ·
   rename_i n p hf
   injection h with h
   subst h
   refine ⟨?_,?_⟩
   ·
    show (if x.f0=31 then loc.set x.f1.toNat (stk.getD (stk.length - 1) 0) else loc).length=L
    split
    · rw [List.length_set];exact hs.1
    · exact hs.1
   ·
    show ∀ c∈(if x.f0=31 then loc.set x.f1.toNat (stk.getD (stk.length - 1) 0) else loc),0≤c
    split
    ·
     rename_i h31
     intro c hc
     rcases List.mem_or_eq_of_mem_set hc with hc|hc
     · exact hs.2 c hc
     ·
      unfold cZU at hf
      rw [if_neg (by omega),if_neg (by omega)] at hf
      split at hf
      · cases hf
      ·
       rw [if_neg (by omega)] at hf
       split at hf
       · cases hf
       ·
        rename_i hq
        have hq:=Classical.not_not.1 hq
        omega
    · exact hs.2
 ·
  split at h
  · cases h
  ·
   split at h
   · cases h
   ·
    injection h with h
    subst h
    exact hs
theorem end_good {dep:Int} {x:S66} {r:Except Int Pr} {t:Pr} (h:endR dep x r=.ok t):r=.ok t∧(t.1.length:Int)≤dep:=by
 unfold endR at h
 split at h
 · cases h
 ·
  split at h
  · cases h
  ·
   split at h
   · cases h
   ·
    injection h with h
    subst h
    exact ⟨rfl,by omega⟩
theorem endF_endR (dep:Int) (x:S66) (j:Bool) (r:Except Int Pr):endF dep x j r=match endR dep x r with | .error e=>.error e | .ok t=>.ok ⟨t.1,t.2,j⟩:=by
 unfold endF endR
 split
 · rfl
 ·
  dsimp only
  split
  · rfl
  ·
   split
   · rfl
   · rfl
theorem fZr {k:Wk} {i:Nat} (h:bZg k i=0) (hj:(aZg k.C i).f0=33∨(aZg k.C i).f0=34):(i:Int)<(aZg k.C i).f1∧(aZg k.C i).f1<k.C.length:=by
 unfold bZg at h
 split at h
 · omega
 ·
  split at h
  · omega
  ·
   unfold cZi at h
   split at h
   · omega
   ·
    rename_i hn
    exact ⟨by
     by_cases hq:(aZg k.C i).f1≤i
     · exact absurd ⟨hj,.inl hq⟩ hn
     ·
      omega,by
     by_cases hq:(k.C.length:Int)≤(aZg k.C i).f1
     · exact absurd ⟨hj,.inr hq⟩ hn
     · omega⟩
theorem cZv {α:Type} (l:List α) (n:Nat) (v z:α) (h:n<l.length):(l.set n v).getD n z=v:=by
  rw [List.getD_eq_getElem?_getD,List.getElem?_set_self h];rfl
theorem getD_set_ne {α:Type} (l:List α) (n m:Nat) (v z:α) (h:n≠m):(l.set n v).getD m z=l.getD m z:=by
  rw [List.getD_eq_getElem?_getD,List.getElem?_set_ne h,←List.getD_eq_getElem?_getD]
theorem fZJ (k:Wk) (hk:0≤k.loc):∀ (d i:Nat) (M:List (Int × St)) (told:List (List Int)) (most:Int) (after:List Pr) (into:List (List Int)) (ahead:List Pr),
 i+d=k.C.length→after.length=i→into.length=k.C.length →
 (∀ t:Nat,i≤t→t<k.C.length→look M t=eZX after (into.getD t []))→(∀ t:Nat,∀ q∈into.getD t [],q.toNat<i)→(∀ a∈after,dZ9 k.loc.toNat a)→told=ahead.map Prod.fst→most=dZg ahead →
 (match runL k d i ⟨(cZT k.loc after i).1,(cZT k.loc after i).2,false⟩ M told most with
 | .error e=>refL k d i after into ahead=.error e
 | .ok (t,m)=>∃ r,refL k d i after into ahead=.ok r∧t=r.map Prod.fst∧m=dZg r)
 | 0,i,M,told,most,after,into,ahead,hi,ha,hin,hM,hq,hg,ht,hm=>⟨ahead,rfl,ht,hm⟩
 | d+1,i,M,told,most,after,into,ahead,hi,ha,hin,hM,hq,hg,ht,hm=>by
  rw [runL,refL]
  by_cases hf:bZg k i≠0
  · rw [if_pos hf,if_pos hf]
  rw [if_neg hf,if_neg hf]
  have hf:=Classical.not_not.1 hf
  obtain ⟨f1,f2,f3,f4⟩:=dZe hf
  have hop:=form_oper hf
  have hfrom:dZ9 k.loc.toNat (cZT k.loc after i):=by
   unfold cZT
   split
   · exact ⟨by simp,by intro c hc;rw [List.eq_of_mem_replicate hc];exact Int.le_refl _⟩
   ·
    rename_i h0
    have hlt:i - 1<after.length:=by omega
    rw [List.getD_eq_getElem?_getD,List.getElem?_eq_getElem hlt]
    exact hg _ (List.getElem_mem _)
  have hat:∀ q:Int,q.toNat<i→dZ9 k.loc.toNat (atP after q):=fun q hq=>by
   unfold atP
   rw [List.getD_eq_getElem?_getD,List.getElem?_eq_getElem (by omega)]
   exact hg _ (List.getElem_mem _)
  generalize cZT k.loc after i=s0 at hfrom ⊢
  obtain ⟨j1,j2⟩:=fZT after (into.getD i []) s0 M i (hM i (Nat.le_refl _) (by omega))
  cases hj:(aZE M i ⟨s0.1,s0.2,false⟩).joined with
  | true=>rw [if_pos rfl,j1 hj]
  | false =>
   have hjo:=j2 hj
   rw [if_neg (by decide),hjo]
   have hgood:=fZl after _ _ _ (fun q hq'=>(hat q (hq i q hq')).1) hfrom hjo
   generalize aZE M i ⟨s0.1,s0.2,false⟩=a at hj hgood ⊢
   dsimp only
   have hu:bt (aZm rowsL (aZg k.C i).f0).f0 0=117→(aZg k.C i).f1=0∨(aZg k.C i).f1=1:=fun hb=>by
    rw [hb] at hop
    simpa [bZy] using hop
   have hs:aZ3 k.dep (aZm rowsL (aZg k.C i).f0) (aZg k.C i) a=match endR k.dep (aZg k.C i) (aZS (aZg k.C i) a.stk a.loc) with | .error e=>.error e | .ok t=>.ok ⟨t.1,t.2,false⟩:=by
    rw [step_core,fZ4 _ _ _ f1 f2 hu (getD_good (L:=0) hgood.2 _),endF_endR,hj]
   rw [hs]
   cases he:endR k.dep (aZg k.C i) (aZS (aZg k.C i) a.stk a.loc) with
   | error e=>rfl
   | ok t =>
    dsimp only
    have hgt:=dZ8 hgood (end_good he).1
    have hfr:cZT k.loc (after++[t]) (i+1)=t:=by
     unfold cZT
     rw [if_neg (by omega),List.getD_eq_getElem?_getD,List.getElem?_append_right (by omega)]
     simp [ha]
    have hat':atP (after++[t]) (i:Int)=t:=by
     unfold atP
     rw [List.getD_eq_getElem?_getD,List.getElem?_append_right (by omega)]
     simp [ha]
    have hg2:∀ b∈after++[t],dZ9 k.loc.toNat b:=fun b hb=>by
     rcases List.mem_append.1 hb with hb|hb
     · exact hg b hb
     · rw [List.mem_singleton.1 hb];exact hgt
    have ht2:told++[a.stk]=(ahead++[(a.stk,a.loc)]).map Prod.fst:=by rw [ht];simp
    have hm2:max most (a.stk.length:Int)=dZg (ahead++[(a.stk,a.loc)]):=by rw [eZA,hm]
    have hold:∀ t':Nat,i+1≤t'→t'<k.C.length→look (del M i) t'=eZX (after++[t]) (into.getD t' []):=fun t' h1 h2=>by
     rw [cZt _ _ (by omega),hM t' (by omega) h2,foldO_ext _ (fun q hq'=>by rw [ha];exact hq t' q hq')]
    by_cases h33:(aZg k.C i).f0=33∨(aZg k.C i).f0=34
    ·
     obtain ⟨g1,g2⟩:=fZr hf h33
     rw [if_pos h33]
     have hset:cZz into (aZg k.C i) i=into.set (aZg k.C i).f1.toNat (into.getD (aZg k.C i).f1.toNat []++[(i:Int)]):=by unfold cZz;rw [if_pos h33]
     rw [hset]
     generalize hT:(aZg k.C i).f1=T at g1 g2 ⊢
     have hTn:T=((T.toNat:Nat):Int):=by omega
     have ih:=fZJ k hk d (i+1) (cZ0 (del M i) T ⟨t.1,t.2,false⟩) (told++[a.stk]) (max most (a.stk.length:Int)) (after++[t]) (into.set T.toNat (into.getD T.toNat []++[(i:Int)])) (ahead++[(a.stk,a.loc)]) (by omega) (by simp [ha]) (by simp [hin]) ?_ ?_ hg2 ht2 hm2
     ·
      rw [hfr] at ih
      exact ih
     ·
      intro t' h1 h2
      by_cases hte:T.toNat=t'
      ·
       subst hte
       rw [cZv _ _ _ _ (by omega),foldO_snoc,←hold _ h1 h2,←hTn]
       have hst:stA (after++[t]) (i:Int)=⟨t.1,t.2,false⟩:=by unfold stA;rw [hat']
       rw [hst]
       unfold cZ0
       cases hl:look (del M i) T with
       | none =>
        dsimp only
        rw [bZ1,hl]
        simp
       | some o =>
        dsimp only
        exact bZU _ _ _ (by rw [hl];simp)
      ·
       rw [getD_set_ne _ _ _ _ _ hte,←hold t' h1 h2]
       unfold cZ0
       cases hl:look (del M i) T with
       | none =>
        dsimp only
        rw [bZ1]
        cases look (del M i) (t':Int) with
        | none=>dsimp only;rw [if_neg (by omega)]
        | some _=>rfl
       | some o =>
        dsimp only
        exact cZZ _ _ _ (by omega) _
     ·
      intro t' q hq'
      by_cases hte:T.toNat=t'
      ·
       subst hte
       rw [cZv _ _ _ _ (by omega)] at hq'
       rcases List.mem_append.1 hq' with hq'|hq'
       · have:=hq _ q hq';omega
       · rw [List.mem_singleton.1 hq'];omega
      ·
       rw [getD_set_ne _ _ _ _ _ hte] at hq'
       have:=hq t' q hq';omega
    ·
     rw [if_neg h33]
     have hset:cZz into (aZg k.C i) i=into:=by unfold cZz;rw [if_neg h33]
     rw [hset]
     by_cases h36:(aZg k.C i).f0=36
     ·
      rw [if_pos h36]
      have hd0:d=0:=by have:=f4.1 h36;omega
      subst hd0
      rw [refL]
      exact ⟨_,rfl,ht2,hm2⟩
     ·
      rw [if_neg h36]
      have ih:=fZJ k hk d (i+1) (del M i) (told++[a.stk]) (max most (a.stk.length:Int)) (after++[t]) into (ahead++[(a.stk,a.loc)]) (by omega) (by simp [ha]) hin hold (fun t' q hq'=>by have:=hq t' q hq';omega) hg2 ht2 hm2
      rw [hfr] at ih
      exact ih
theorem gZA (nT nN nS nM:Nat) (C:List S66) (dep loc:Int) :
 match aZU nT nN nS nM C dep loc with
 | .error e=>fZE nT nN nS nM C dep loc=.error e
 | .ok (t,m)=>∃ r,fZE nT nN nS nM C dep loc=.ok r∧t=r.map Prod.fst∧m=dZg r:=by
 unfold aZU fZE
 by_cases hd:aZz nT nN nS nM C dep loc
 · rw [if_pos hd,if_pos hd]
 ·
  rw [if_neg hd,if_neg hd]
  by_cases hc:C.length=0
  · rw [if_pos hc,if_pos hc]
  ·
   rw [if_neg hc,if_neg hc]
   have hl:0≤loc:=by
    by_cases h:loc<0
    · exact absurd (.inr (.inr (.inr (.inl h)))) hd
    · omega
   exact fZJ (K0 nT nN nS nM C dep loc) hl C.length 0 [] [] 0 [] (List.replicate C.length []) [] (by show 0+C.length=C.length;omega) rfl (by show _=C.length;simp) (fun t _ ht=>by
    have:(List.replicate C.length ([]:List Int)).getD t []=[]:=by rw [List.getD_eq_getElem?_getD,List.getElem?_replicate];split <;> rfl
    rw [this];rfl) (fun t q hq=>by
    have:(List.replicate C.length ([]:List Int)).getD t []=[]:=by rw [List.getD_eq_getElem?_getD,List.getElem?_replicate];split <;> rfl
    rw [this] at hq;cases hq) (by simp) rfl rfl
theorem sameInts_l (a b:List Int) (hl:a.length=b.length) (hn:a.length≤1000000):∀ (d i k:Nat),i+d=a.length→d<k→(∀ j,j<i→a.getD j 0=b.getD j 0)→berthref21_sameInts.l0 k a b i=some (decide (a=b)):=by
 intro d
 induction d with
 | zero =>
  intro i k h1 h2 h3
  obtain ⟨k,rfl⟩:∃ m,k=m+1:=⟨k - 1,by omega⟩
  unfold berthref21_sameInts.l0
  rw [if_neg (by omega)]
  have:a=b:=by
   refine List.ext_getElem hl (fun j hj hj2=>?_)
   have:=h3 j (by omega)
   simpa [List.getD_eq_getElem?_getD,hj,hj2] using this
  rw [decide_eq_true this]
 | succ d ih =>
  intro i k h1 h2 h3
  obtain ⟨k,rfl⟩:∃ m,k=m+1:=⟨k - 1,by omega⟩
  unfold berthref21_sameInts.l0
  rw [if_pos (by omega),if_pos (by omega),if_pos (by omega)]
  by_cases he:rd a i=rd b i
  ·
   rw [if_pos he,show wrap64 ((i:Int)+1)=((i+1:Nat):Int) by unfold wrap64;omega]
   refine ih (i+1) k (by omega) (by omega) (fun j hj=>?_)
   by_cases hji:j=i
   · subst hji;simpa [rd] using he
   · exact h3 j (by omega)
  ·
   rw [if_neg he]
   have:a≠b:=fun e=>he (by rw [e])
   rw [decide_eq_false this]
theorem dZn (a b:List Int) (hn:a.length≤1000000):∀ k,a.length<k→berthref21_sameInts.f k a b=some (decide (a=b)):=by
 intro k hk
 unfold berthref21_sameInts.f
 by_cases hl:a.length=b.length
 ·
  rw [if_pos (by omega)]
  exact sameInts_l a b hl hn a.length 0 k (by omega) hk (fun j hj=>absurd hj (by omega))
 ·
  rw [if_neg (by omega)]
  rw [decide_eq_false (fun e=>hl (by rw [e]))]
theorem fZP (a:List Int):aZD a a=a:=by
  unfold aZD
  induction a with
  | nil=>rfl
  | cons x a ih=>rw [List.zipWith_cons_cons,ih,if_pos rfl]
def freeT (x:S66) (stk loc:List Int):Int × Int × Int :=
  match cZU x stk loc with
  | .error e=>(0,0,e)
  | .ok (n,p)=>((n:Nat),p,0)
theorem bit_f (a:Int):berthref21_bitmap.f a=some (decide (a=1∨a=2)):=by
 unfold berthref21_bitmap.f
 by_cases h1:a=1
 · rw [if_pos h1];simp [h1]
 ·
  rw [if_neg h1]
  by_cases h2:a=2 <;> simp [h1,h2]
theorem free_f (x:S66) (stk loc:List Int) (h0:27≤x.f0) (h1:x.f0≤35) (hl:x.f0=32→0≤x.f1∧x.f1<loc.length) (hn:stk.length≤1000000) :
 berthref21_free.f 9 x.f0 x.f1 x.f2 x.f3 stk loc=some (freeT x stk loc):=by
 have e1:1≤stk.length→rd stk (wrap64 ((stk.length:Int) - 1))=stk.getD (stk.length - 1) 0∧wrap64 ((stk.length:Int) - 1)=((stk.length - 1:Nat):Int):=fun h=>by
  have:wrap64 ((stk.length:Int) - 1)=((stk.length - 1:Nat):Int):=by unfold wrap64;omega
  rw [this];exact ⟨by simp [rd],rfl⟩
 have e2:2≤stk.length→rd stk (wrap64 ((stk.length:Int) - 2))=stk.getD (stk.length - 2) 0∧wrap64 ((stk.length:Int) - 2)=((stk.length - 2:Nat):Int):=fun h=>by
  have:wrap64 ((stk.length:Int) - 2)=((stk.length - 2:Nat):Int):=by unfold wrap64;omega
  rw [this];exact ⟨by simp [rd],rfl⟩
 obtain ⟨op,a,b,c⟩:=x
 dsimp only at h0 h1 hl ⊢
 have hop:op=27∨op=28∨op=29∨op=30∨op=31∨op=32∨op=33∨op=34∨op=35:=by omega
 have two:(op=27∨op=28∨op=29)→berthref21_free.j1 8 op (stk.length:Int) 2 op a b c stk loc=some (freeT ⟨op,a,b,c⟩ stk loc):=by
  intro h
  unfold freeT cZU
  dsimp only
  rw [berthref21_free.j1.eq_2,if_pos h]
  by_cases hs:stk.length<2
  · rw [if_pos (by omega),if_pos hs]
  ·
   obtain ⟨p1,p2⟩:=e1 (by omega)
   obtain ⟨q1,q2⟩:=e2 (by omega)
   rw [if_neg (by omega),if_pos (by decide),if_neg hs,p1,p2,if_pos (by omega),if_pos (by omega)]
   rw [berthref21_free.j2.eq_2]
   rw [bit_f]
   generalize stk.getD (stk.length - 1) 0=top
   have e3:∀ B:Bool,B=true→berthref21_free.j3 6 (stk.length:Int) top (decide (top=1∨top=2)) op B op a b c stk loc=some (match (if ¬(top=1∨top=2)∨stk.getD (stk.length - 2) 0≠top then Except.error 215 else Except.ok (2,top):Except Int (Nat × Int)) with | .error e=>(0,0,e) | .ok (n,p)=>((n:Nat),p,0)):=by
    rintro B rfl
    rw [berthref21_free.j3.eq_2]
    rw [if_pos rfl,q1,q2]
    have i0:(0:Int)≤((stk.length - 2:Nat):Int):=by omega
    have i1:((stk.length - 2:Nat):Int)<(stk.length:Int):=by omega
    by_cases hb:top=1∨top=2
    ·
     by_cases hq:stk.getD (stk.length - 2) 0=top
     · rw [if_pos (decide_eq_true hb),if_pos i0,if_pos i1,if_pos hq,if_neg (by rintro (g|g);exact g hb;exact g hq)];rfl
     · rw [if_pos (decide_eq_true hb),if_pos i0,if_pos i1,if_neg hq,if_pos (.inr hq)]
    · rw [if_neg (by rw [decide_eq_false hb];decide),if_pos (.inl hb)]
   simp only [Option.bind_some]
   rcases h with h|h|h
   · rw [if_pos h];exact e3 _ (by simp [h])
   · rw [if_neg (by omega),if_pos h];exact e3 _ (by simp [h])
   · rw [if_neg (by omega),if_neg (by omega)];exact e3 _ (by simp [h])
 unfold berthref21_free.f
 rcases hop with h|h|h|h|h|h|h|h|h
 ·
  rw [if_pos h]
  rw [berthref21_free.j0.eq_2]
  rw [if_pos (by simp [h])]
  exact two (by omega)
 ·
  rw [if_neg (by omega),if_pos h]
  rw [berthref21_free.j0.eq_2]
  rw [if_pos (by simp [h])]
  exact two (by omega)
 ·
  rw [if_neg (by omega),if_neg (by omega)]
  rw [berthref21_free.j0.eq_2]
  rw [if_pos (by simp [h])]
  exact two (by omega)
 all_goals
  subst h
  unfold freeT cZU
  rw [if_neg (by decide),if_neg (by decide)]
  rw [berthref21_free.j0.eq_2]
  rw [if_neg (by decide)]
  dsimp only
  rw [if_neg (by decide:¬(_∨_∨_))]
 case inr.inr.inr.inr.inr.inl =>
  obtain ⟨l0,l1⟩:=hl rfl
  rw [if_pos rfl]
  rw [berthref21_free.j1.eq_2]
  rw [if_neg (by omega),if_neg (by decide)]
  rw [berthref21_free.j2.eq_2]
  rw [bit_f]
  simp only [Option.bind_some]
  rw [if_neg (by decide),if_neg (by decide)]
  rw [berthref21_free.j3.eq_2]
  rw [if_neg (by decide),if_neg (by decide),if_neg (by decide)]
  rw [berthref21_free.j4.eq_2]
  rw [if_neg (by decide),if_neg (by decide),if_pos rfl,if_pos l0,if_pos l1]
  have:rd loc a=loc.getD a.toNat 0:=rfl
  rw [this]
  by_cases hz:loc.getD a.toNat 0=0
  · rw [if_pos hz];simp only [if_true,if_pos hz]
  · rw [if_neg hz];simp only [if_true,if_neg hz];rfl
 all_goals
  rw [if_neg (by decide),if_neg (by decide)]
  rw [berthref21_free.j1.eq_2]
  by_cases hs:stk.length<1
  · rw [if_pos (by omega),if_pos hs]
  ·
   obtain ⟨p1,p2⟩:=e1 (by omega)
   rw [if_neg (by omega),if_pos (by decide),if_neg hs,p1,p2,if_pos (by omega),if_pos (by omega)]
   rw [berthref21_free.j2.eq_2]
   rw [bit_f]
   generalize stk.getD (stk.length - 1) 0=top
   simp only [Option.bind_some]
   rw [if_neg (by decide),if_neg (by decide)]
   rw [berthref21_free.j3.eq_2]
   rw [if_neg (by decide)]
   by_cases hb:top=1∨top=2 <;> simp [berthref21_free.j4.eq_2,hb]
def letR (w:Int):Int:=if w=0 then 45 else if w=1 then 117 else if w=2 then 116 else if w=3 then 115 else if w=4 then 110 else if w=5 then 109 else if w=6 then 108 else if w=7 then 106 else 99
theorem fits_f (T:List ByteArray) (N:List Int) (S:List (List ByteArray)) (M:List (List Int)) (C:List S66) (dep loc w n:Int) (h0:0≤w) (h1:w≤8) :
 berthref21_fits.f T N S M C dep loc w n=some (bZy (K0 T.length N.length S.length M.length C dep loc) (letR w) n):=by
 have hw:w=0∨w=1∨w=2∨w=3∨w=4∨w=5∨w=6∨w=7∨w=8:=by omega
 unfold berthref21_fits.f bZy K0
 rcases hw with rfl|rfl|rfl|rfl|rfl|rfl|rfl|rfl|rfl
 · simp [letR];rw [Bool.beq_eq_decide_eq]
 ·
  simp [letR]
  by_cases hn:n=0 <;> simp [hn]
  rw [Bool.beq_eq_decide_eq]
 all_goals
  simp [letR]
  try (first|(split <;> simp_all <;> omega)|(split <;> simp_all))
theorem table:∀ i:_root_.Fin 37,0<i.1→(berthref21_Operands.f 8 (i.1:Int)).any (fun t=>decide (0≤t.1∧t.1≤8∧0≤t.2.1∧t.2.1≤8∧0≤t.2.2∧t.2.2≤8∧bt (rowsL.getD i.1 z165).f0 0=letR t.1∧bt (rowsL.getD i.1 z165).f0 1=letR t.2.1∧bt (rowsL.getD i.1 z165).f0 2=letR t.2.2∧(t.1=7↔(i.1=33∨i.1=34))))=true:=by decide +kernel
theorem opers_f (op:Int) (h0:1≤op) (h1:op≤36):∃ a b c,berthref21_Operands.f 8 op=some (a,b,c)∧0≤a∧a≤8∧0≤b∧b≤8∧0≤c∧c≤8∧bt (aZm rowsL op).f0 0=letR a∧bt (aZm rowsL op).f0 1=letR b∧bt (aZm rowsL op).f0 2=letR c∧(a=7↔(op=33∨op=34)):=by
  obtain ⟨n,rfl⟩:∃ n:Nat,op=n:=⟨op.toNat,by omega⟩
  have h:=table ⟨n,by omega⟩ (by show 0<n;omega)
  cases ho:berthref21_Operands.f 8 (n:Int) with
  | none=>rw [show ((⟨n,by omega⟩:_root_.Fin 37).1:Int)=n from rfl,ho] at h;cases h
  | some t =>
    rw [show ((⟨n,by omega⟩:_root_.Fin 37).1:Int)=n from rfl,ho] at h
    obtain ⟨a,b,c⟩:=t
    have h:=of_decide_eq_true h
    obtain ⟨g1,g2,g3,g4,g5,g6,g7,g8,g9,g10⟩:=h
    refine ⟨a,b,c,rfl,g1,g2,g3,g4,g5,g6,g7,g8,g9,g10.trans ?_⟩
    show n=33∨n=34↔_
    omega
theorem early_f (T:List ByteArray) (N:List Int) (S:List (List ByteArray)) (M:List (List Int)) (C:List S66) (dep loc:Int) (i:Nat) (hi:i<C.length) (hn:C.length≤32768) :
 berthref21_early.f 11 T N S M C dep loc i=some (bZg (K0 T.length N.length S.length M.length C dep loc) i):=by
 unfold berthref21_early.f
 rw [if_pos (by omega),if_pos (by omega)]
 have hk:(K0 T.length N.length S.length M.length C dep loc).C=C:=rfl
 have j0:∀ B:Bool,B=decide ((aZg C i).f0<1∨36<(aZg C i).f0)→berthref21_early.j0 11 i (aZg C i).f0 B T N S M C dep loc (aZg C i).f0 (aZg C i).f1 (aZg C i).f2 (aZg C i).f3=some (bZg (K0 T.length N.length S.length M.length C dep loc) i):=by
  rintro B rfl
  unfold bZg
  rw [berthref21_early.j0.eq_2,hk]
  by_cases h1:(aZg C i).f0<1∨36<(aZg C i).f0
  · rw [if_pos (by simpa using h1),if_pos h1]
  ·
   rw [if_neg (by simpa using h1),if_neg h1]
   obtain ⟨a,b,c,ho,g1,g2,g3,g4,g5,g6,g7,g8,g9,g10⟩:=opers_f (aZg C i).f0 (by omega) (by omega)
   have ho':berthref21_Operands.f 10 (aZg C i).f0=some (a,b,c):=berthref21_Operands.mono _ 9 _ (berthref21_Operands.mono _ 8 _ ho)
   rw [ho',g7,g8,g9]
   simp only [Option.bind_some]
   rw [fits_f _ _ _ _ _ _ _ _ _ g1 g2,fits_f _ _ _ _ _ _ _ _ _ g3 g4,fits_f _ _ _ _ _ _ _ _ _ g5 g6]
   simp only [Option.bind_some]
   generalize bZy _ (letR a) _=ba
   generalize bZy _ (letR b) _=bb
   generalize bZy _ (letR c) _=bc
   have hend:((i:Int) == wrap64 ((C.length:Int) - 1))=decide (i+1=C.length):=by
    have:wrap64 ((C.length:Int) - 1)=((C.length - 1:Nat):Int):=by unfold wrap64;omega
    rw [this]
    by_cases h:i+1=C.length
    · simp [h];omega
    · simp [h];omega
   rw [hend]
   have j2:∀ (B:Bool),B=decide (a=7∧((aZg C i).f1≤i∨(C.length:Int)≤(aZg C i).f1))→berthref21_early.j2 9 (aZg C i).f0 (decide (i+1=C.length)) B=some (cZi C.length i (aZg C i).f0 (aZg C i).f1):=by
    rintro B rfl
    unfold cZi
    rw [berthref21_early.j2.eq_2]
    by_cases hq:a=7∧((aZg C i).f1≤i∨(C.length:Int)≤(aZg C i).f1)
    · rw [if_pos (by simpa using hq),if_pos ⟨g10.1 hq.1,hq.2⟩]
    ·
     have n213:¬(((aZg C i).f0=33∨(aZg C i).f0=34)∧((aZg C i).f1≤i∨(C.length:Int)≤(aZg C i).f1)):=fun g=>hq ⟨g10.2 g.1,g.2⟩
     rw [if_neg (by simpa using hq),if_neg n213]
     by_cases h36:(aZg C i).f0=36
     ·
      by_cases he:i+1=C.length
      · rw [if_neg (by simp [h36,he]),if_pos (by simp [h36,he])]
      · rw [if_pos (by simp [h36,he]),if_neg (by simp [h36,he])]
     ·
      by_cases he:i+1=C.length
      · rw [if_pos (by simp [h36,he]),if_neg (by simp [h36,he])]
      · rw [if_neg (by simp [h36,he]),if_pos (by simp [h36,he])]
   have j1:∀ B:Bool,berthref21_early.j1 10 i (aZg C i).f0 a (decide (i+1=C.length)) B T N S M C dep loc (aZg C i).f0 (aZg C i).f1 (aZg C i).f2 (aZg C i).f3=if B=true then some 212 else some (cZi C.length i (aZg C i).f0 (aZg C i).f1):=by
    intro B
    rw [berthref21_early.j1.eq_2]
    cases B with
    | true=>rfl
    | false =>
     rw [if_neg Bool.false_ne_true]
     show _=some (cZi C.length i (aZg C i).f0 (aZg C i).f1)
     by_cases h7:a=7
     ·
      rw [if_pos h7]
      by_cases hle:(aZg C i).f1≤i
      · rw [if_pos hle];exact j2 _ (by simp [h7,hle])
      · rw [if_neg hle];exact j2 _ (by simp [h7,hle])
     · rw [if_neg h7];exact j2 _ (by simp [h7])
   cases ba <;> cases bb <;> cases bc <;> simp [j1]
 by_cases h1:(aZg C i).f0<1
 · rw [if_pos h1];exact j0 _ (by simp [h1])
 · rw [if_neg h1];exact j0 _ (by simp [h1])
end Go.Proofs.Ytbnplhmmbnmagaa.D
