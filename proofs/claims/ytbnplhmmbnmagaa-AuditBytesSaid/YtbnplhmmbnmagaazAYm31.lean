/- The document's audit, plain: what an instruction leaves, by its table; its walk over all places. -/
import Derived.Test.YtbnplhmmbnmagaazAYm30
import Derived.Test.YtbnplhmmbnmagaazAYm8
set_option maxHeartbeats 4000000
set_option maxRecDepth 100000
set_option linter.unusedVariables false
set_option linter.unusedSimpArgs false
namespace Go.Proofs.Ytbnplhmmbnmagaa.D
open Go.RowKit Go.Proofs.YtbnplhmmbnmagaaW.PrintWords Go.Proofs.YtbnplhmmbnmagaaW.PrintLast Go.Proofs.YtbnplhmmbnmagaaW.PrintMore Go.Proofs.Ytbnplhmmbnmagaa.All
def effF (op a:Int):List Int × Int:=(berthref21_Effect.f 8 op a).getD ([],0)
def cZz (p:Int):List Int:=if 0<p then [p] else []
def cZ3 (x:S66) (stk loc:List Int):Except Int (Nat × Int) :=
  if x.f0=27∨x.f0=28∨x.f0=29 then
    if stk.length<2 then .error 214
    else if ¬(stk.getD (stk.length - 1) 0=1∨stk.getD (stk.length - 1) 0=2)∨stk.getD (stk.length - 2) 0≠stk.getD (stk.length - 1) 0 then .error 215
    else .ok (2,stk.getD (stk.length - 1) 0)
  else if x.f0=32 then
    if loc.getD x.f1.toNat 0=0 then .error 217 else .ok (0,loc.getD x.f1.toNat 0)
  else if stk.length<1 then .error 214
  else if x.f0=35 then .ok (1,0)
  else if ¬(stk.getD (stk.length - 1) 0=1∨stk.getD (stk.length - 1) 0=2) then .error 215
  else if x.f0=31 then .ok (1,0)
  else .ok (1,stk.getD (stk.length - 1) 0)
def aZR (x:S66) (stk loc:List Int):Except Int (List Int × List Int) :=
  if 27≤x.f0∧x.f0≤35 then
    match cZ3 x stk loc with
    | .error e=>.error e
    | .ok (n,p)=>.ok (stk.take (stk.length - n)++cZz p,if x.f0=31 then loc.set x.f1.toNat (stk.getD (stk.length - 1) 0) else loc)
  else if stk.length<(effF x.f0 x.f1).1.length then .error 214
  else if stk.drop (stk.length - (effF x.f0 x.f1).1.length)≠(effF x.f0 x.f1).1 then .error 215
  else .ok (stk.take (stk.length - (effF x.f0 x.f1).1.length)++cZz (effF x.f0 x.f1).2,loc)
def eZI (r:S165) (x:S66) (stk loc:List Int):Except Int (List Int × List Int) :=
  if stk.length<r.f1.size then .error 214
  else if aZz stk (stk.length - r.f1.size) r.f1 (aZJ stk (stk.length - r.f1.size) r.f1.size) r.f1.size 0=false then .error 215
  else putF r.f2 x (stk.take (stk.length - r.f1.size)) loc (aZJ stk (stk.length - r.f1.size) r.f1.size)
theorem step_core (dep:Int) (r:S165) (x:S66) (s:St):bZd dep r x s=endF dep x s.joined (eZI r x s.stk s.loc):=by
 unfold bZd eZI
 split
 · rfl
 ·
  split
  · rfl
  · rfl
theorem fitsF_of (stk:List Int) (frm:Nat) (t:ByteArray) (first:Int):∀ (d j:Nat),(∀ q,j≤q→q<j+d→fitF (stk.getD (frm+q) 0) (bt t q) first=true)→aZz stk frm t first d j=true
  | 0,j,_=>rfl
  | d+1,j,h=>by
    rw [aZz,if_neg (by rw [h j (by omega) (by omega)];decide)]
    exact fitsF_of stk frm t first d (j+1) (fun q h1 h2=>h q (by omega) (by omega))
theorem eZk (t:ByteArray):(cZL t).length=t.size:=by unfold cZL;simp
theorem eZl (t:ByteArray) (q:Nat) (h:q<t.size):(cZL t)[q]?=some (bZ6 (bt t q) 0):=by
  unfold cZL
  rw [List.getElem?_map,List.getElem?_range h]
  rfl
theorem fZa (t:ByteArray) (stk:List Int) (first:Int) (hp:∀ j,j<t.size→bt t j≠42∧bt t j≠66) (hl:t.size≤stk.length) :
 (aZz stk (stk.length - t.size) t first t.size 0=true↔stk.drop (stk.length - t.size)=cZL t):=by
 constructor
 ·
  intro h
  have hfit:=gZa _ _ _ _ _ _ h
  apply List.ext_getElem?
  intro q
  rw [List.getElem?_drop]
  rcases Nat.lt_or_ge q t.size with hq|hq
  ·
   obtain ⟨p1,p2⟩:=hp q hq
   have hf:=hfit q (Nat.zero_le _) (by omega)
   unfold fitF at hf
   rw [if_neg p1,if_neg p2] at hf
   have hlt:stk.length - t.size+q<stk.length:=by omega
   rw [eZl t q hq,List.getElem?_eq_getElem hlt]
   simp only [List.getD_eq_getElem?_getD,List.getElem?_eq_getElem hlt] at hf
   simpa using hf
  · rw [List.getElem?_eq_none (by omega),List.getElem?_eq_none (by rw [eZk];exact hq)]
 ·
  intro h
  apply fitsF_of
  intro q _ hq
  rw [Nat.zero_add] at hq
  obtain ⟨p1,p2⟩:=hp q hq
  unfold fitF
  rw [if_neg p1,if_neg p2]
  have h2:=eZl t q hq
  rw [←h,List.getElem?_drop] at h2
  rw [List.getD_eq_getElem?_getD,h2]
  simp
theorem eff_rows (op a:Int) (h1:1≤op) (h2:op≤26) (ha:bt (aZf rowsL op).f0 0=117→a=0∨a=1) :
 effF op a=(cZL (aZf rowsL op).f1,bZ6 (bt (aZf rowsL op).f2 0) a)∧0<bZ6 (bt (aZf rowsL op).f2 0) a:=by
 have hop:op=1∨op=2∨op=3∨op=4∨op=5∨op=6∨op=7∨op=8∨op=9∨op=10∨op=11∨op=12∨op=13∨op=14∨op=15∨op=16∨op=17∨op=18∨op=19∨op=20∨op=21∨op=22∨op=23∨op=24∨op=25∨op=26:=by omega
 have pos:∀ c,(c≠85→0≤cZP c)→(c=85→a=0∨a=1)→0<bZ6 c a:=by
  intro c h ha
  by_cases hc:c=85
  ·
   subst hc
   rw [cell_u]
   rcases ha rfl with rfl|rfl <;> decide +kernel
  ·
   have:=h hc
   unfold bZ6
   rw [if_pos this]
   omega
 rcases hop with rfl|rfl|rfl|rfl|rfl|rfl|rfl|rfl|rfl|rfl|rfl|rfl|rfl|rfl|rfl|rfl|rfl|rfl|rfl|rfl|rfl|rfl|rfl|rfl|rfl|rfl
 all_goals refine ⟨?_,pos _ (by decide +kernel) (fun h=>?_)⟩
 all_goals first|exact ha rfl|exact absurd h (by decide +kernel)|exact congrArg (Option.getD · ([],0)) (eff_u rfl rfl)|exact congrArg (Option.getD · ([],0)) (show berthref21_Effect.f 8 _ a=some _ from rfl)|rfl
theorem fZd (x:S66) (r:S165) (stk loc:List Int) (h27:¬(27≤x.f0∧x.f0≤35)) (hp:∀ j,j<r.f1.size→bt r.f1 j≠42∧bt r.f1 j≠66) (he:(effF x.f0 x.f1).1=cZL r.f1) (hput:∀ first,putF r.f2 x (stk.take (stk.length - r.f1.size)) loc first=.ok (stk.take (stk.length - r.f1.size)++cZz (effF x.f0 x.f1).2,loc)) :
 eZI r x stk loc=aZR x stk loc:=by
 unfold eZI aZR
 rw [if_neg h27,he,eZk]
 by_cases hl:stk.length<r.f1.size
 · rw [if_pos hl,if_pos hl]
 ·
  rw [if_neg hl,if_neg hl]
  by_cases hd:stk.drop (stk.length - r.f1.size)=cZL r.f1
  ·
   rw [if_neg (by rw [(fZa r.f1 stk _ hp (by omega)).2 hd];decide),if_neg (fun h=>h hd)]
   exact hput _
  ·
   rw [if_pos,if_pos hd]
   cases hq:aZz stk (stk.length - r.f1.size) r.f1 (aZJ stk (stk.length - r.f1.size) r.f1.size) r.f1.size 0 with
   | false=>rfl
   | true=>exact absurd ((fZa r.f1 stk _ hp (by omega)).1 hq) hd
theorem fitF_66 (c first:Int):fitF c 66 first=decide ((c=1∨c=2)∧c=first):=by unfold fitF;rw [if_neg (by decide),if_pos rfl]
theorem fitF_42 (c first:Int):fitF c 42 first=true:=if_pos rfl
theorem dZb (stk:List Int) (f n:Nat) (h:0<n):aZJ stk f n=stk.getD f 0:=if_pos h
theorem fits_two (stk:List Int) (h:2≤stk.length):aZz stk (stk.length - 2) ⟨#[66,66]⟩ (aZJ stk (stk.length - 2) 2) 2 0=decide ((stk.getD (stk.length - 1) 0=1∨stk.getD (stk.length - 1) 0=2)∧stk.getD (stk.length - 2) 0=stk.getD (stk.length - 1) 0):=by
 have e0:bt ⟨#[66,66]⟩ ((0:Nat):Int)=66:=by decide
 have e1:bt ⟨#[66,66]⟩ ((1:Nat):Int)=66:=by decide
 rw [aZz,aZz,aZz,e0,Nat.zero_add,e1,fitF_66,fitF_66,dZb _ _ _ (by decide),Nat.add_zero,show stk.length - 2+1=stk.length - 1 by omega]
 generalize stk.getD (stk.length - 1) 0=a
 generalize stk.getD (stk.length - 2) 0=b
 by_cases hab:b=a
 ·
  subst hab
  by_cases hb:b=1∨b=2 <;> simp [hb]
 ·
  have hba:¬a=b:=fun h=>hab h.symm
  by_cases hb:b=1∨b=2 <;> simp [hb,hab,hba]
theorem fits_one (stk:List Int) (h:1≤stk.length):aZz stk (stk.length - 1) ⟨#[66]⟩ (aZJ stk (stk.length - 1) 1) 1 0=decide (stk.getD (stk.length - 1) 0=1∨stk.getD (stk.length - 1) 0=2):=by
 have e0:bt ⟨#[66]⟩ ((0:Nat):Int)=66:=by decide
 rw [aZz,aZz,e0,fitF_66,dZb _ _ _ (by decide),Nat.add_zero]
 generalize stk.getD (stk.length - 1) 0=a
 by_cases hb:a=1∨a=2 <;> simp [hb]
theorem core_behind (x:S66) (stk loc:List Int) (h1:1≤x.f0) (h2:x.f0≤36) (hu:bt (aZf rowsL x.f0).f0 0=117→x.f1=0∨x.f1=1) (hn:0≤loc.getD x.f1.toNat 0):eZI (aZf rowsL x.f0) x stk loc=aZR x stk loc:=by
 by_cases h26:x.f0≤26
 ·
  obtain ⟨e1,e2,e3,e4,e5,e6,e7,e8⟩:=effect_rows x.f0 x.f1 h1 h26 hu
  obtain ⟨q1,q2⟩:=eff_rows x.f0 x.f1 h1 h26 hu
  refine fZd x _ stk loc (by omega) e2 (by rw [q1]) (fun first=>?_)
  unfold putF
  rw [if_neg e3,if_neg e4,if_neg e5,q1]
  unfold cZz
  rw [if_pos q2]
 by_cases h36:x.f0=36
 ·
  have hr1:(aZf rowsL x.f0).f1=⟨#[78]⟩:=by rw [h36];decide +kernel
  have hr2:(aZf rowsL x.f0).f2=⟨#[]⟩:=by rw [h36];decide +kernel
  have he:effF x.f0 x.f1=([1],0):=by rw [h36];rfl
  refine fZd x _ stk loc (by omega) (by rw [hr1];decide) (by rw [he,hr1];decide) (fun first=>?_)
  unfold putF
  rw [hr2,if_pos rfl,if_neg (by omega),he]
  simp [cZz]
 have h27:27≤x.f0∧x.f0≤35:=by omega
 have two:(x.f0=27∨x.f0=28∨x.f0=29)→(aZf rowsL x.f0).f1=⟨#[66,66]⟩→(aZf rowsL x.f0).f2=⟨#[61]⟩→eZI (aZf rowsL x.f0) x stk loc=aZR x stk loc:=by
  intro h r1 r2
  unfold eZI aZR cZ3
  rw [r1,r2,show ByteArray.size ⟨#[66,66]⟩=2 from rfl,if_pos h27,if_pos h]
  by_cases hl:stk.length<2
  · rw [if_pos hl,if_pos hl]
  ·
   rw [if_neg hl,if_neg hl,fits_two stk (by omega),dZb _ _ _ (by decide)]
   generalize stk.getD (stk.length - 1) 0=a
   generalize stk.getD (stk.length - 2) 0=b
   by_cases hq:(a=1∨a=2)∧b=a
   ·
    rw [if_neg (by simpa using hq),if_neg (by rintro (g|g);exact g hq.1;exact g hq.2)]
    obtain ⟨q1,rfl⟩:=hq
    unfold putF cZz
    rw [if_neg (by decide),if_pos rfl]
    dsimp only
    rw [if_pos (by omega),if_neg (by omega)]
   ·
    rw [if_pos (by simpa using hq), if_pos (by
     by_cases g:a=1∨a=2
     · exact .inr (fun g2=>hq ⟨g,g2⟩)
     · exact .inl g)]
 have one:(aZf rowsL x.f0).f1=⟨#[66]⟩→x.f0≠35→¬(x.f0=27∨x.f0=28∨x.f0=29)→x.f0≠32→(∀ a,(a=1∨a=2)→putF (aZf rowsL x.f0).f2 x (stk.take (stk.length - 1)) loc a=.ok (stk.take (stk.length - 1)++cZz (if x.f0=31 then 0 else a),if x.f0=31 then loc.set x.f1.toNat a else loc))→eZI (aZf rowsL x.f0) x stk loc=aZR x stk loc:=by
  intro r1 n35 n27 n32 hput
  unfold eZI aZR cZ3
  rw [r1,show ByteArray.size ⟨#[66]⟩=1 from rfl,if_pos h27,if_neg n27,if_neg n32,if_neg n35]
  by_cases hl:stk.length<1
  · rw [if_pos hl,if_pos hl]
  ·
   rw [if_neg hl,if_neg hl,fits_one stk (by omega),dZb _ _ _ (by decide)]
   have hput:=hput (stk.getD (stk.length - 1) 0)
   generalize stk.getD (stk.length - 1) 0=a at hput ⊢
   by_cases hq:a=1∨a=2
   ·
    rw [if_neg (by rw [decide_eq_true hq];decide),if_neg (fun g=>g hq),hput hq]
    by_cases h31:x.f0=31
    · simp only [if_pos h31]
    · simp only [if_neg h31]
   · rw [if_pos (decide_eq_false hq),if_pos hq]
 have hcases:x.f0=27∨x.f0=28∨x.f0=29∨x.f0=30∨x.f0=31∨x.f0=32∨x.f0=33∨x.f0=34∨x.f0=35:=by omega
 have puts:x.f0≠31→(aZf rowsL x.f0).f2=⟨#[61]⟩→∀ a,(a=1∨a=2)→putF (aZf rowsL x.f0).f2 x (stk.take (stk.length - 1)) loc a=.ok (stk.take (stk.length - 1)++cZz (if x.f0=31 then 0 else a),if x.f0=31 then loc.set x.f1.toNat a else loc):=by
  intro h r2 a ha
  unfold putF cZz
  rw [r2,if_neg (by decide),if_pos rfl,if_neg h,if_neg h,if_pos (by omega)]
 rcases hcases with h|h|h|h|h|h|h|h|h
 · exact two (by omega) (by rw [h];decide +kernel) (by rw [h];decide +kernel)
 · exact two (by omega) (by rw [h];decide +kernel) (by rw [h];decide +kernel)
 · exact two (by omega) (by rw [h];decide +kernel) (by rw [h];decide +kernel)
 · exact one (by rw [h];decide +kernel) (by omega) (by omega) (by omega) (puts (by omega) (by rw [h];decide +kernel))
 ·
  refine one (by rw [h];decide +kernel) (by omega) (by omega) (by omega) (fun a ha=>?_)
  have hr2:(aZf rowsL x.f0).f2=⟨#[]⟩:=by rw [h];decide +kernel
  unfold putF cZz
  rw [hr2,if_pos rfl,if_pos h,if_pos h,if_neg (by decide),List.append_nil]
 ·
  have hr1:(aZf rowsL x.f0).f1=⟨#[]⟩:=by rw [h];decide +kernel
  have hr2:(aZf rowsL x.f0).f2=⟨#[76]⟩:=by rw [h];decide +kernel
  unfold eZI aZR cZ3
  have n27:¬(x.f0=27∨x.f0=28∨x.f0=29):=by omega
  rw [hr1,hr2,show ByteArray.size ⟨#[]⟩=0 from rfl,if_pos h27,if_neg n27,if_pos h,if_neg (Nat.not_lt_zero _),aZz,if_neg (by decide)]
  unfold putF
  rw [if_neg (by decide),if_neg (by decide),if_pos rfl]
  by_cases hz:loc.getD x.f1.toNat 0=0
  · rw [if_pos hz,if_pos hz]
  ·
   rw [if_neg hz,if_neg hz]
   unfold cZz
   dsimp only
   rw [if_pos (by omega),if_neg (by omega)]
 · exact one (by rw [h];decide +kernel) (by omega) (by omega) (by omega) (puts (by omega) (by rw [h];decide +kernel))
 · exact one (by rw [h];decide +kernel) (by omega) (by omega) (by omega) (puts (by omega) (by rw [h];decide +kernel))
 ·
  have hr1:(aZf rowsL x.f0).f1=⟨#[42]⟩:=by rw [h];decide +kernel
  have hr2:(aZf rowsL x.f0).f2=⟨#[]⟩:=by rw [h];decide +kernel
  unfold eZI aZR cZ3
  have n27:¬(x.f0=27∨x.f0=28∨x.f0=29):=by omega
  have n32:¬x.f0=32:=by omega
  rw [hr1,hr2,show ByteArray.size ⟨#[42]⟩=1 from rfl,if_pos h27,if_neg n27,if_neg n32]
  by_cases hl:stk.length<1
  · rw [if_pos hl,if_pos hl]
  ·
   have e0:bt ⟨#[42]⟩ ((0:Nat):Int)=42:=by decide
   rw [if_neg hl,if_neg hl,if_pos h,aZz,aZz,e0,fitF_42,if_neg (by decide)]
   have n31:¬x.f0=31:=by omega
   unfold putF cZz
   rw [if_pos rfl,if_neg n31]
   simp only [if_neg n31]
   rw [if_neg (by decide),List.append_nil]
abbrev Pr:=List Int × List Int
def atP (after:List Pr) (q:Int):Pr:=after.getD q.toNat ([],[])
def dZB (after:List Pr):List Int→Pr→Option Pr
  | [],s=>some s
  | j :: l,s=>if s.1=(atP after j).1 then dZB after l (s.1,aZD s.2 (atP after j).2) else none
def dZh (loc:Int) (after:List Pr) (i:Nat):Pr:=if i=0 then ([],List.replicate loc.toNat 0) else after.getD (i - 1) ([],[])
def endR (dep:Int) (x:S66) (t:Except Int Pr):Except Int Pr :=
  match t with
  | .error e=>.error e
  | .ok t=>if dep<t.1.length then .error 216 else if x.f0=36∧0<t.1.length then .error 219 else .ok t
def cZX (into:List (List Int)) (x:S66) (i:Nat):List (List Int) :=
  if x.f0=33∨x.f0=34 then into.set x.f1.toNat (into.getD x.f1.toNat []++[(i:Int)]) else into
def refL (k:Wk):Nat→Nat→List Pr→List (List Int)→List Pr→Except (Int × Int) (List Pr)
  | 0,_,_,_,ahead=>.ok ahead
  | d+1,i,after,into,ahead =>
    if bZx k i≠0 then .error (i,bZx k i)
    else
      match dZB after (into.getD i []) (dZh k.loc after i) with
      | none=>.error (i,218)
      | some s =>
        match endR k.dep (aZg k.C i) (aZR (aZg k.C i) s.1 s.2) with
        | .error e=>.error (i,e)
        | .ok t=>refL k d (i+1) (after++[t]) (cZX into (aZg k.C i) i) (ahead++[s])
noncomputable def gZk (nT nN nS nM:Nat) (C:List S66) (dep loc:Int):Except (Int × Int) (List Pr) :=
  @ite _ (aZF nT nN nS nM C dep loc) (Classical.propDecidable _) (.error (-1,210)) (if C.length=0 then .error (0,219) else refL (K0 nT nN nS nM C dep loc) C.length 0 [] (List.replicate C.length []) [])
def dZD (r:List Pr):Int:=r.foldl (fun m s=>max m (s.1.length:Int)) 0
theorem fZb (r:List Pr) (s:Pr):dZD (r++[s])=max (dZD r) (s.1.length:Int):=by unfold dZD;rw [List.foldl_append];rfl
def fZy (x y:Int):Int:=if x=y then x else 0
theorem cZ9 (a b:List Int):aZD a b=List.zipWith fZy a b:=rfl
theorem gZz (a b:List Int):aZD a b=aZD b a:=by
  rw [cZ9,cZ9,List.zipWith_comm]
  congr 1
  funext x y
  unfold fZy
  split <;> split <;> omega
theorem mergeL_assoc:∀ (a b c:List Int),aZD (aZD a b) c=aZD a (aZD b c)
  | [],_,_=>rfl
  | _ :: _,[],_=>rfl
  | _ :: _,_ :: _,[]=>rfl
  | x :: a,y :: b,z :: c=>by
    have ih:=mergeL_assoc a b c
    simp only [cZ9,List.zipWith_cons_cons] at ih ⊢
    rw [ih]
    congr 1
    unfold fZy
    repeat' split
    all_goals omega
theorem foldl_merge:∀ (l:List (List Int)) (s a:List Int),l.foldl aZD (aZD s a)=aZD (l.foldl aZD a) s
  | [],s,a=>gZz s a
  | b :: l,s,a=>by
    rw [List.foldl_cons,List.foldl_cons,mergeL_assoc]
    exact foldl_merge l s (aZD a b)
def stA (after:List Pr) (q:Int):St:=⟨(atP after q).1,(atP after q).2,false⟩
def fZC (after:List Pr):List Int→Option St
  | []=>none
  | j :: l=>some (l.foldl (fun o q=>aZB o (stA after q)) (stA after j))
theorem foldO_snoc (after:List Pr) (l:List Int) (q:Int):fZC after (l++[q])=some (match fZC after l with|none=>stA after q|some o=>aZB o (stA after q)):=by
  cases l with
  | nil=>rfl
  | cons j l=>simp only [List.cons_append,fZC,List.foldl_append,List.foldl_cons,List.foldl_nil]
theorem atP_ext (after:List Pr) (t:Pr) (q:Int) (h:q.toNat<after.length):atP (after++[t]) q=atP after q:=by
  unfold atP
  rw [List.getD_eq_getElem?_getD,List.getD_eq_getElem?_getD,List.getElem?_append_left h]
theorem fZ8 {after:List Pr} {t:Pr}:∀ (l:List Int) (o:St),(∀ q∈l,q.toNat<after.length)→l.foldl (fun o q=>aZB o (stA (after++[t]) q)) o=l.foldl (fun o q=>aZB o (stA after q)) o
  | [],_,_=>rfl
  | q :: l,o,h=>by
    rw [List.foldl_cons,List.foldl_cons]
    have:stA (after++[t]) q=stA after q:=by unfold stA;rw [atP_ext after t q (h q (List.mem_cons_self ..))]
    rw [this]
    exact fZ8 l _ (fun q hq=>h q (List.mem_cons_of_mem _ hq))
theorem foldO_ext {after:List Pr} {t:Pr} (l:List Int) (h:∀ q∈l,q.toNat<after.length):fZC (after++[t]) l=fZC after l:=by
  cases l with
  | nil=>rfl
  | cons j l =>
    have:stA (after++[t]) j=stA after j:=by unfold stA;rw [atP_ext after t j (h j (List.mem_cons_self ..))]
    simp only [fZC,this]
    rw [fZ8 l _ (fun q hq=>h q (List.mem_cons_of_mem _ hq))]
theorem fZ9 (after:List Pr):∀ (l:List Int) (o:St),(l.foldl (fun o q=>aZB o (stA after q)) o).stk=o.stk∧(l.foldl (fun o q=>aZB o (stA after q)) o).loc=(l.map fun q=>(atP after q).2).foldl aZD o.loc∧((l.foldl (fun o q=>aZB o (stA after q)) o).joined=false↔o.joined=false∧∀ q∈l,(atP after q).1=o.stk)
  | [],o=>⟨rfl,rfl,by simp⟩
  | q :: l,o=>by
    obtain ⟨h1,h2,h3⟩:=fZ9 after l (aZB o (stA after q))
    rw [List.foldl_cons]
    refine ⟨h1,h2,h3.trans ?_⟩
    have e1:(aZB o (stA after q)).stk=o.stk:=rfl
    have e2:(aZB o (stA after q)).joined=(o.joined || !decide (o.stk=(atP after q).1)):=rfl
    rw [e1,e2]
    constructor
    · rintro ⟨g1,g2⟩
      simp at g1
      exact ⟨g1.1,fun z hz=>by rcases List.mem_cons.1 hz with rfl|hz;exact g1.2.symm;exact g2 z hz⟩
    · rintro ⟨g1,g2⟩
      exact ⟨by simp [g1,(g2 q (List.mem_cons_self ..)).symm],fun z hz=>g2 z (List.mem_cons_of_mem _ hz)⟩
theorem fZ1 (after:List Pr):∀ (l:List Int) (s:Pr),(∀ q∈l,(atP after q).1=s.1)→dZB after l s=some (s.1,(l.map fun q=>(atP after q).2).foldl aZD s.2)
  | [],s,_=>rfl
  | q :: l,s,h=>by
    rw [dZB,if_pos (h q (List.mem_cons_self ..)).symm]
    exact fZ1 after l (s.1,aZD s.2 (atP after q).2) (fun z hz=>h z (List.mem_cons_of_mem _ hz))
theorem joinF_no (after:List Pr):∀ (l:List Int) (s:Pr),(¬ ∀ q∈l,(atP after q).1=s.1)→dZB after l s=none
  | [],s,h=>absurd (by simp) h
  | q :: l,s,h=>by
    rw [dZB]
    split
    · rename_i he
      refine joinF_no after l (s.1,aZD s.2 (atP after q).2) (fun g=>h (fun z hz=>?_))
      rcases List.mem_cons.1 hz with rfl|hz
      · exact he.symm
      · exact g z hz
    · rfl
theorem join_arrive (after:List Pr) (l:List Int) (s:Pr) (M:List (Int × St)) (i:Int) (h:look M i=fZC after l) :
 ((aZP M i ⟨s.1,s.2,false⟩).joined=true→dZB after l s=none)∧((aZP M i ⟨s.1,s.2,false⟩).joined=false→dZB after l s=some ((aZP M i ⟨s.1,s.2,false⟩).stk,(aZP M i ⟨s.1,s.2,false⟩).loc)):=by
 cases l with
 | nil=>rw [bZU h];exact ⟨fun h=>(by cases h),fun _=>rfl⟩
 | cons j l =>
  rw [bZz h]
  obtain ⟨h1,h2,h3⟩:=fZ9 after l (stA after j)
  generalize l.foldl (fun o q=>aZB o (stA after q)) (stA after j)=o at h1 h2 h3
  have e1:(aZB o ⟨s.1,s.2,false⟩).joined=(o.joined || !decide (o.stk=s.1)):=rfl
  have e2:(aZB o ⟨s.1,s.2,false⟩).stk=o.stk:=rfl
  have e3:(aZB o ⟨s.1,s.2,false⟩).loc=aZD o.loc s.2:=rfl
  rw [e1,e2,e3]
  have hall:(o.joined || !decide (o.stk=s.1))=false↔∀ q∈j :: l,(atP after q).1=s.1:=by
   rw [Bool.or_eq_false_iff,h3]
   constructor
   ·
    rintro ⟨⟨-,g⟩,g2⟩
    have g2:o.stk=s.1:=by simpa using g2
    intro z hz
    rcases List.mem_cons.1 hz with rfl|hz
    · rw [←g2,h1];rfl
    · rw [g z hz,←h1,g2]
   ·
    intro g
    have gj:=g j (List.mem_cons_self ..)
    have g1:o.stk=s.1:=by rw [h1];exact gj
    exact ⟨⟨rfl,fun z hz=>(g z (List.mem_cons_of_mem _ hz)).trans gj.symm⟩,by simp [g1]⟩
  constructor
  ·
   intro hj
   exact joinF_no after _ _ (fun g=>by rw [hall.2 g] at hj;cases hj)
  ·
   intro hj
   have g:=hall.1 hj
   rw [fZ1 after _ _ g,h1,h2]
   have gj:=g j (List.mem_cons_self ..)
   rw [List.map_cons,List.foldl_cons,foldl_merge,←gj]
   rfl
def eZP (L:Nat) (a:Pr):Prop:=a.2.length=L∧∀ c∈a.2,0≤c
theorem eZ6 {L:Nat} {a b:List Int} (ha:a.length=L∧∀ c∈a,0≤c) (hb:b.length=L):(aZD a b).length=L∧∀ c∈aZD a b,0≤c:=by
 refine ⟨by rw [aZW a b (by omega)];exact ha.1,?_⟩
 intro c hc
 rw [cZ9] at hc
 obtain ⟨n,hn,he⟩:=List.getElem_of_mem hc
 rw [List.getElem_zipWith] at he
 rw [←he]
 unfold fZy
 split
 · exact ha.2 _ (List.getElem_mem _)
 · exact Int.le_refl _
theorem fZ0 {L:Nat} (after:List Pr):∀ (l:List Int) (s s':Pr),(∀ q∈l,(atP after q).2.length=L)→eZP L s→dZB after l s=some s'→eZP L s'
  | [],s,s',_,hs,h=>by injection h with h;subst h;exact hs
  | q :: l,s,s',hl,hs,h=>by
    rw [dZB] at h
    split at h
    · exact fZ0 after l (s.1,aZD s.2 (atP after q).2) s' (fun z hz=>hl z (List.mem_cons_of_mem _ hz)) (eZ6 hs (hl q (List.mem_cons_self ..))) h
    · cases h
theorem getD_good {L:Nat} {loc:List Int} (h:∀ c∈loc,(0:Int)≤c) (n:Nat):0≤loc.getD n 0:=by
  rw [List.getD_eq_getElem?_getD]
  cases he:loc[n]? with
  | none=>exact Int.le_refl _
  | some c=>exact h c (List.mem_of_getElem? he)
theorem eZN {L:Nat} {x:S66} {stk loc:List Int} {t:Pr} (hs:eZP L (stk,loc)) (h:aZR x stk loc=.ok t):eZP L t:=by
 unfold aZR at h
 split at h
 ·
  split at h
  · cases h
  ·
   rename_i n p hf
   injection h with h
   subst h
   refine ⟨?_,?_⟩
   ·
    show (if x.f0=31 then loc.set x.f1.toNat (stk.getD (stk.length - 1) 0) else loc).length=L
    split
    · rw [List.length_set];exact hs.1
    · exact hs.1
   ·
    show ∀ c∈(if x.f0=31 then loc.set x.f1.toNat (stk.getD (stk.length - 1) 0) else loc),0≤c
    split
    ·
     rename_i h31
     intro c hc
     rcases List.mem_or_eq_of_mem_set hc with hc|hc
     · exact hs.2 c hc
     ·
      unfold cZ3 at hf
      rw [if_neg (by omega),if_neg (by omega)] at hf
      split at hf
      · cases hf
      ·
       rw [if_neg (by omega)] at hf
       split at hf
       · cases hf
       ·
        rename_i hq
        have hq:=Classical.not_not.1 hq
        omega
    · exact hs.2
 ·
  split at h
  · cases h
  ·
   split at h
   · cases h
   ·
    injection h with h
    subst h
    exact hs
theorem end_good {dep:Int} {x:S66} {r:Except Int Pr} {t:Pr} (h:endR dep x r=.ok t):r=.ok t∧(t.1.length:Int)≤dep:=by
 unfold endR at h
 split at h
 · cases h
 ·
  split at h
  · cases h
  ·
   split at h
   · cases h
   ·
    injection h with h
    subst h
    exact ⟨rfl,by omega⟩
theorem endF_endR (dep:Int) (x:S66) (j:Bool) (r:Except Int Pr):endF dep x j r=match endR dep x r with | .error e=>.error e | .ok t=>.ok ⟨t.1,t.2,j⟩:=by
 unfold endF endR
 split
 · rfl
 ·
  dsimp only
  split
  · rfl
  ·
   split
   · rfl
   · rfl
theorem fZ7 {k:Wk} {i:Nat} (h:bZx k i=0) (hj:(aZg k.C i).f0=33∨(aZg k.C i).f0=34):(i:Int)<(aZg k.C i).f1∧(aZg k.C i).f1<k.C.length:=by
 unfold bZx at h
 split at h
 · omega
 ·
  split at h
  · omega
  ·
   unfold cZU at h
   split at h
   · omega
   ·
    rename_i hn
    exact ⟨by
     by_cases hq:(aZg k.C i).f1≤i
     · exact absurd ⟨hj,.inl hq⟩ hn
     ·
      omega,by
     by_cases hq:(k.C.length:Int)≤(aZg k.C i).f1
     · exact absurd ⟨hj,.inr hq⟩ hn
     · omega⟩
theorem cZQ {α:Type} (l:List α) (n:Nat) (v z:α) (h:n<l.length):(l.set n v).getD n z=v:=by
  rw [List.getD_eq_getElem?_getD,List.getElem?_set_self h];rfl
theorem getD_set_ne {α:Type} (l:List α) (n m:Nat) (v z:α) (h:n≠m):(l.set n v).getD m z=l.getD m z:=by
  rw [List.getD_eq_getElem?_getD,List.getElem?_set_ne h,←List.getD_eq_getElem?_getD]
theorem gZq (k:Wk) (hk:0≤k.loc):∀ (d i:Nat) (M:List (Int × St)) (told:List (List Int)) (most:Int) (after:List Pr) (into:List (List Int)) (ahead:List Pr),
 i+d=k.C.length→after.length=i→into.length=k.C.length →
 (∀ t:Nat,i≤t→t<k.C.length→look M t=fZC after (into.getD t []))→(∀ t:Nat,∀ q∈into.getD t [],q.toNat<i)→(∀ a∈after,eZP k.loc.toNat a)→told=ahead.map Prod.fst→most=dZD ahead →
 (match runL k d i ⟨(dZh k.loc after i).1, (dZh k.loc after i).2, false⟩ M told most with
 | .error e=>refL k d i after into ahead=.error e
 | .ok (t,m)=>∃ r,refL k d i after into ahead=.ok r∧t=r.map Prod.fst∧m=dZD r)
 | 0,i,M,told,most,after,into,ahead,hi,ha,hin,hM,hq,hg,ht,hm=>⟨ahead,rfl,ht,hm⟩
 | d+1,i,M,told,most,after,into,ahead,hi,ha,hin,hM,hq,hg,ht,hm=>by
  rw [runL,refL]
  by_cases hf:bZx k i≠0
  · rw [if_pos hf,if_pos hf]
  rw [if_neg hf,if_neg hf]
  have hf:=Classical.not_not.1 hf
  obtain ⟨f1,f2,f3,f4⟩:=eZC hf
  have hop:=form_oper hf
  have hfrom:eZP k.loc.toNat (dZh k.loc after i):=by
   unfold dZh
   split
   · exact ⟨by simp,by intro c hc;rw [List.eq_of_mem_replicate hc];exact Int.le_refl _⟩
   ·
    rename_i h0
    have hlt:i - 1<after.length:=by omega
    rw [List.getD_eq_getElem?_getD,List.getElem?_eq_getElem hlt]
    exact hg _ (List.getElem_mem _)
  have hat:∀ q:Int,q.toNat<i→eZP k.loc.toNat (atP after q):=fun q hq=>by
   unfold atP
   rw [List.getD_eq_getElem?_getD,List.getElem?_eq_getElem (by omega)]
   exact hg _ (List.getElem_mem _)
  generalize dZh k.loc after i=s0 at hfrom ⊢
  obtain ⟨j1,j2⟩:=join_arrive after (into.getD i []) s0 M i (hM i (Nat.le_refl _) (by omega))
  cases hj:(aZP M i ⟨s0.1,s0.2,false⟩).joined with
  | true=>rw [if_pos rfl,j1 hj]
  | false =>
   have hjo:=j2 hj
   rw [if_neg (by decide),hjo]
   have hgood:=fZ0 after _ _ _ (fun q hq'=>(hat q (hq i q hq')).1) hfrom hjo
   generalize aZP M i ⟨s0.1,s0.2,false⟩=a at hj hgood ⊢
   dsimp only
   have hu:bt (aZf rowsL (aZg k.C i).f0).f0 0=117→(aZg k.C i).f1=0∨(aZg k.C i).f1=1:=fun hb=>by
    rw [hb] at hop
    simpa [bZH] using hop
   have hs:bZd k.dep (aZf rowsL (aZg k.C i).f0) (aZg k.C i) a=match endR k.dep (aZg k.C i) (aZR (aZg k.C i) a.stk a.loc) with | .error e=>.error e | .ok t=>.ok ⟨t.1,t.2,false⟩:=by
    rw [step_core,core_behind _ _ _ f1 f2 hu (getD_good (L:=0) hgood.2 _),endF_endR,hj]
   rw [hs]
   cases he:endR k.dep (aZg k.C i) (aZR (aZg k.C i) a.stk a.loc) with
   | error e=>rfl
   | ok t =>
    dsimp only
    have hgt:=eZN hgood (end_good he).1
    have hfr:dZh k.loc (after++[t]) (i+1)=t:=by
     unfold dZh
     rw [if_neg (by omega),List.getD_eq_getElem?_getD,List.getElem?_append_right (by omega)]
     simp [ha]
    have hat':atP (after++[t]) (i:Int)=t:=by
     unfold atP
     rw [List.getD_eq_getElem?_getD,List.getElem?_append_right (by omega)]
     simp [ha]
    have hg2:∀ b∈after++[t],eZP k.loc.toNat b:=fun b hb=>by
     rcases List.mem_append.1 hb with hb|hb
     · exact hg b hb
     · rw [List.mem_singleton.1 hb];exact hgt
    have ht2:told++[a.stk]=(ahead++[(a.stk,a.loc)]).map Prod.fst:=by rw [ht];simp
    have hm2:max most (a.stk.length:Int)=dZD (ahead++[(a.stk,a.loc)]):=by rw [fZb,hm]
    have hold:∀ t':Nat,i+1≤t'→t'<k.C.length→look (del M i) t'=fZC (after++[t]) (into.getD t' []):=fun t' h1 h2=>by
     rw [cZO _ _ (by omega),hM t' (by omega) h2,foldO_ext _ (fun q hq'=>by rw [ha];exact hq t' q hq')]
    by_cases h33:(aZg k.C i).f0=33∨(aZg k.C i).f0=34
    ·
     obtain ⟨g1,g2⟩:=fZ7 hf h33
     rw [if_pos h33]
     have hset:cZX into (aZg k.C i) i=into.set (aZg k.C i).f1.toNat (into.getD (aZg k.C i).f1.toNat []++[(i:Int)]):=by unfold cZX;rw [if_pos h33]
     rw [hset]
     generalize hT:(aZg k.C i).f1=T at g1 g2 ⊢
     have hTn:T=((T.toNat:Nat):Int):=by omega
     have ih:=gZq k hk d (i+1) (dZq (del M i) T ⟨t.1,t.2,false⟩) (told++[a.stk]) (max most (a.stk.length:Int)) (after++[t]) (into.set T.toNat (into.getD T.toNat []++[(i:Int)])) (ahead++[(a.stk,a.loc)]) (by omega) (by simp [ha]) (by simp [hin]) ?_ ?_ hg2 ht2 hm2
     ·
      rw [hfr] at ih
      exact ih
     ·
      intro t' h1 h2
      by_cases hte:T.toNat=t'
      ·
       subst hte
       rw [cZQ _ _ _ _ (by omega),foldO_snoc,←hold _ h1 h2,←hTn]
       have hst:stA (after++[t]) (i:Int)=⟨t.1,t.2,false⟩:=by unfold stA;rw [hat']
       rw [hst]
       unfold dZq
       cases hl:look (del M i) T with
       | none =>
        dsimp only
        rw [cZe,hl]
        simp
       | some o =>
        dsimp only
        exact bZ5 _ _ _ (by rw [hl];simp)
      ·
       rw [getD_set_ne _ _ _ _ _ hte,←hold t' h1 h2]
       unfold dZq
       cases hl:look (del M i) T with
       | none =>
        dsimp only
        rw [cZe]
        cases look (del M i) (t':Int) with
        | none=>dsimp only;rw [if_neg (by omega)]
        | some _=>rfl
       | some o =>
        dsimp only
        exact dZo _ _ _ (by omega) _
     ·
      intro t' q hq'
      by_cases hte:T.toNat=t'
      ·
       subst hte
       rw [cZQ _ _ _ _ (by omega)] at hq'
       rcases List.mem_append.1 hq' with hq'|hq'
       · have:=hq _ q hq';omega
       · rw [List.mem_singleton.1 hq'];omega
      ·
       rw [getD_set_ne _ _ _ _ _ hte] at hq'
       have:=hq t' q hq';omega
    ·
     rw [if_neg h33]
     have hset:cZX into (aZg k.C i) i=into:=by unfold cZX;rw [if_neg h33]
     rw [hset]
     by_cases h36:(aZg k.C i).f0=36
     ·
      rw [if_pos h36]
      have hd0:d=0:=by have:=f4.1 h36;omega
      subst hd0
      rw [refL]
      exact ⟨_,rfl,ht2,hm2⟩
     ·
      rw [if_neg h36]
      have ih:=gZq k hk d (i+1) (del M i) (told++[a.stk]) (max most (a.stk.length:Int)) (after++[t]) into (ahead++[(a.stk,a.loc)]) (by omega) (by simp [ha]) hin hold (fun t' q hq'=>by have:=hq t' q hq';omega) hg2 ht2 hm2
      rw [hfr] at ih
      exact ih
theorem walk_audit (nT nN nS nM:Nat) (C:List S66) (dep loc:Int) :
 match aZ1 nT nN nS nM C dep loc with
 | .error e=>gZk nT nN nS nM C dep loc=.error e
 | .ok (t,m)=>∃ r,gZk nT nN nS nM C dep loc=.ok r∧t=r.map Prod.fst∧m=dZD r:=by
 unfold aZ1 gZk
 by_cases hd:aZF nT nN nS nM C dep loc
 · rw [if_pos hd,if_pos hd]
 ·
  rw [if_neg hd,if_neg hd]
  by_cases hc:C.length=0
  · rw [if_pos hc,if_pos hc]
  ·
   rw [if_neg hc,if_neg hc]
   have hl:0≤loc:=by
    by_cases h:loc<0
    · exact absurd (.inr (.inr (.inr (.inl h)))) hd
    · omega
   exact gZq (K0 nT nN nS nM C dep loc) hl C.length 0 [] [] 0 [] (List.replicate C.length []) [] (by show 0 + C.length = C.length; omega) rfl (by show _ = C.length; simp) (fun t _ ht => by
    have:(List.replicate C.length ([]:List Int)).getD t []=[]:=by rw [List.getD_eq_getElem?_getD,List.getElem?_replicate];split <;> rfl
    rw [this]; rfl) (fun t q hq => by
    have:(List.replicate C.length ([]:List Int)).getD t []=[]:=by rw [List.getD_eq_getElem?_getD,List.getElem?_replicate];split <;> rfl
    rw [this] at hq;cases hq) (by simp) rfl rfl
theorem sameInts_l (a b:List Int) (hl:a.length=b.length) (hn:a.length≤1000000):∀ (d i k:Nat),i+d=a.length→d<k→(∀ j,j<i→a.getD j 0=b.getD j 0)→berthref21_sameInts.l0 k a b i=some (decide (a=b)):=by
 intro d
 induction d with
 | zero =>
  intro i k h1 h2 h3
  obtain ⟨k,rfl⟩:∃ m,k=m+1:=⟨k - 1,by omega⟩
  unfold berthref21_sameInts.l0
  rw [if_neg (by omega)]
  have:a=b:=by
   refine List.ext_getElem hl (fun j hj hj2=>?_)
   have:=h3 j (by omega)
   simpa [List.getD_eq_getElem?_getD,hj,hj2] using this
  rw [decide_eq_true this]
 | succ d ih =>
  intro i k h1 h2 h3
  obtain ⟨k,rfl⟩:∃ m,k=m+1:=⟨k - 1,by omega⟩
  unfold berthref21_sameInts.l0
  rw [if_pos (by omega),if_pos (by omega),if_pos (by omega)]
  by_cases he:rd a i=rd b i
  ·
   rw [if_pos he,show wrap64 ((i:Int)+1)=((i+1:Nat):Int) by unfold wrap64;omega]
   refine ih (i+1) k (by omega) (by omega) (fun j hj=>?_)
   by_cases hji:j=i
   · subst hji;simpa [rd] using he
   · exact h3 j (by omega)
  ·
   rw [if_neg he]
   have:a≠b:=fun e=>he (by rw [e])
   rw [decide_eq_false this]
theorem dZK (a b:List Int) (hn:a.length≤1000000):∀ k,a.length<k→berthref21_sameInts.f k a b=some (decide (a=b)):=by
 intro k hk
 unfold berthref21_sameInts.f
 by_cases hl:a.length=b.length
 ·
  rw [if_pos (by omega)]
  exact sameInts_l a b hl hn a.length 0 k (by omega) hk (fun j hj=>absurd hj (by omega))
 ·
  rw [if_neg (by omega)]
  rw [decide_eq_false (fun e=>hl (by rw [e]))]
theorem gZy (a:List Int):aZD a a=a:=by
  unfold aZD
  induction a with
  | nil=>rfl
  | cons x a ih=>rw [List.zipWith_cons_cons,ih,if_pos rfl]
def freeT (x:S66) (stk loc:List Int):Int × Int × Int :=
  match cZ3 x stk loc with
  | .error e=>(0,0,e)
  | .ok (n,p)=>((n:Nat),p,0)
theorem bit_f (a:Int):berthref21_bitmap.f a=some (decide (a=1∨a=2)):=by
 unfold berthref21_bitmap.f
 by_cases h1:a=1
 · rw [if_pos h1];simp [h1]
 ·
  rw [if_neg h1]
  by_cases h2:a=2 <;> simp [h1,h2]
def letR (w:Int):Int:=if w=0 then 45 else if w=1 then 117 else if w=2 then 116 else if w=3 then 115 else if w=4 then 110 else if w=5 then 109 else if w=6 then 108 else if w=7 then 106 else 99
theorem table:∀ i:_root_.Fin 37,0<i.1→(berthref21_Operands.f 8 (i.1:Int)).any (fun t=>decide (0≤t.1∧t.1≤8∧0≤t.2.1∧t.2.1≤8∧0≤t.2.2∧t.2.2≤8∧bt (rowsL.getD i.1 z165).f0 0=letR t.1∧bt (rowsL.getD i.1 z165).f0 1=letR t.2.1∧bt (rowsL.getD i.1 z165).f0 2=letR t.2.2∧(t.1=7↔(i.1=33∨i.1=34))))=true:=by decide +kernel
theorem opers_f (op:Int) (h0:1≤op) (h1:op≤36):∃ a b c,berthref21_Operands.f 8 op=some (a,b,c)∧0≤a∧a≤8∧0≤b∧b≤8∧0≤c∧c≤8∧bt (aZf rowsL op).f0 0=letR a∧bt (aZf rowsL op).f0 1=letR b∧bt (aZf rowsL op).f0 2=letR c∧(a=7↔(op=33∨op=34)):=by
  obtain ⟨n,rfl⟩:∃ n:Nat,op=n:=⟨op.toNat,by omega⟩
  have h:=table ⟨n,by omega⟩ (by show 0<n;omega)
  cases ho:berthref21_Operands.f 8 (n:Int) with
  | none=>rw [show ((⟨n,by omega⟩:_root_.Fin 37).1:Int)=n from rfl,ho] at h;cases h
  | some t =>
    rw [show ((⟨n,by omega⟩:_root_.Fin 37).1:Int)=n from rfl,ho] at h
    obtain ⟨a,b,c⟩:=t
    have h:=of_decide_eq_true h
    obtain ⟨g1,g2,g3,g4,g5,g6,g7,g8,g9,g10⟩:=h
    refine ⟨a,b,c,rfl,g1,g2,g3,g4,g5,g6,g7,g8,g9,g10.trans ?_⟩
    show n=33∨n=34↔_
    omega
theorem Drawn0.below_ {w w':World} (h:Drawn0 w w'):Below w.heap.size w w':=by
  obtain ⟨n,rfl⟩:=h
  exact aZa (Below.refl _ _) n
theorem cells2_ {W:World} {X t:Nat} {a b:Value} (h:W.heap[X]?=some (.cells #[a,b] t (0,0))):W.cell? ⟨X,0,none⟩=some a∧W.cell? ⟨X,1,none⟩=some b:=by simp [World.cell?,h]
theorem dZs {W:World} {X t:Nat} {a b c d:Value} (h:W.heap[X]?=some (.cells #[a,b,c,d] t (0,0))):W.cell? ⟨X,0,none⟩=some a∧W.cell? ⟨X,1,none⟩=some b∧W.cell? ⟨X,2,none⟩=some c∧W.cell? ⟨X,3,none⟩=some d:=by simp [World.cell?,h]
theorem boxes2_ (w:World) (a b:Obj):((w.alloc a).alloc b).heap[w.heap.size]?=some a∧((w.alloc a).alloc b).heap[w.heap.size+1]?=some b∧Below w.heap.size w ((w.alloc a).alloc b):=by
 refine ⟨?_,?_,aZb (aZb (Below.refl _ _) _) _⟩
 · rw [heap_alloc_old _ _ (by simp)];exact heap_alloc_new w _
 · have:=heap_alloc_new (w.alloc a) b;simpa using this
theorem free_any (w:World) (x:S66) (A1 A2:Option Addr) (c1 c2:Nat) (stk loc:List Int) (hs:Kd.C (Kd.int .i64) w A1 stk.length stk) (hl:Kd.C (Kd.int .i64) w A2 loc.length loc)
 (h0:27≤x.f0) (h1:x.f0≤35) (h2:x.f0=32→0≤x.f1∧x.f1<loc.length) (hn:stk.length≤1000000) :
 Calls Try.prog 98 #[.agg #[.int .i64 x.f0,.int .i64 x.f1,.int .i64 x.f2,.int .i64 x.f3],.agg #[.slice A1 stk.length c1,.slice A2 loc.length c2]] w fun e w'=>e=.returned (.tuple #[.int .i64 (freeT x stk loc).1,.int .i64 (freeT x stk loc).2.1,.int .i64 (freeT x stk loc).2.2])∧Below w.heap.size w w':=by
 obtain ⟨p0,p1,p2⟩:=boxes2_ w (.cells #[.int .i64 x.f0,.int .i64 x.f1,.int .i64 x.f2,.int .i64 x.f3] 66) (.cells #[.slice A1 stk.length c1,.slice A2 loc.length c2] 94)
 go_enter Try.func98,Try.ntmps98
 go_upto_region 1 with (fail)
 generalize (w.alloc (.cells #[.int .i64 x.f0,.int .i64 x.f1,.int .i64 x.f2,.int .i64 x.f3] 66)).alloc (.cells #[.slice A1 stk.length c1,.slice A2 loc.length c2] 94)=W at p0 p1 p2 ⊢
 have hs1:=Kd.C_below hs p2
 have hl1:=Kd.C_below hl p2
 generalize w.heap.size+1=b1 at p1 ⊢
 obtain ⟨x0,x1,x2,x3⟩:=dZs p0
 obtain ⟨z0,z1⟩:=cells2_ p1
 have HB:=hid_ p2
 clear p0 p1 p2 hs hl
 have htop:∀ i:Nat,i<stk.length→∃ ad,A1=some ad∧W.cell? (ad.add i)=some (.int .i64 (stk.getD i 0)):=fun i h=>by
  obtain ⟨ad,ha,hc⟩:=Kd.at_int hs1 (i:Int) (by omega) (by omega)
  rw [Int.toNat_natCast] at hc
  exact ⟨ad,ha,by rw [hc];simp [rd]⟩
 have hloc:0≤x.f1→x.f1<loc.length→∃ ad,A2=some ad∧W.cell? (ad.add x.f1.toNat)=some (.int .i64 (loc.getD x.f1.toNat 0)):=fun h h'=>by
  obtain ⟨ad,ha,hc⟩:=Kd.at_int hl1 x.f1 h h'
  exact ⟨ad,ha,by rw [hc];simp [rd]⟩
 clear hs1 hl1
 have e1:1≤stk.length→IntKind.i64.wrap ((stk.length:Int) - 1)=((stk.length - 1:Nat):Int)∧wrap64 ((stk.length:Int) - 1)=((stk.length - 1:Nat):Int):=fun h=>⟨by rw [show (stk.length:Int) - 1=((stk.length - 1:Nat):Int) by omega];exact IntWalk.i64_in _ ⟨by omega,by omega⟩,by unfold wrap64;omega⟩
 have e2:2≤stk.length→IntKind.i64.wrap ((stk.length:Int) - 2)=((stk.length - 2:Nat):Int)∧wrap64 ((stk.length:Int) - 2)=((stk.length - 2:Nat):Int):=fun h=>⟨by rw [show (stk.length:Int) - 2=((stk.length - 2:Nat):Int) by omega];exact IntWalk.i64_in _ ⟨by omega,by omega⟩,by unfold wrap64;omega⟩
 have HD:=hid_ (Below.refl W.heap.size W)
 have hA:(x.f0=27∨x.f0=28∨x.f0=29)∨(x.f0=30∨x.f0=33∨x.f0=34)∨x.f0=31∨x.f0=35∨x.f0=32:=by omega
 rcases hA with hA|hA
 ·
  have hft:freeT x stk loc=if stk.length<2 then (0,0,214) else if ¬(stk.getD (stk.length - 1) 0=1∨stk.getD (stk.length - 1) 0=2)∨stk.getD (stk.length - 2) 0≠stk.getD (stk.length - 1) 0 then (0,0,215) else (2,stk.getD (stk.length - 1) 0,0):=by
   unfold freeT cZ3;rw [if_pos hA]
   by_cases a:stk.length<2
   · rw [if_pos a,if_pos a]
   ·
    rw [if_neg a,if_neg a]
    by_cases b:¬(stk.getD (stk.length - 1) 0=1∨stk.getD (stk.length - 1) 0=2)∨stk.getD (stk.length - 2) 0≠stk.getD (stk.length - 1) 0
    · rw [if_pos b,if_pos b]
    · rw [if_neg b,if_neg b];rfl
  by_cases hlt:stk.length<2
  ·
   have q0:(stk.length:Int)<2:=by omega
   rw [if_pos hlt] at hft
   have HF:=hid_ hft
   clear hft e1 e2 htop hloc
   rcases hA with e|e|e <;> (rw [e] at x0;clear e;go_wp2_with (fail);go_ret3;rw [HF.out];exact ⟨rfl,HB.out⟩)
  ·
   have q0:¬(stk.length:Int)<2:=by omega
   rw [if_neg hlt] at hft
   obtain ⟨ad,rfl,y0⟩:=htop (stk.length - 1) (by omega)
   obtain ⟨ad2,he2,y1⟩:=htop (stk.length - 2) (by omega)
   obtain rfl:=Option.some.inj he2
   obtain ⟨w1,w2⟩:=e1 (by omega)
   obtain ⟨w3,w4⟩:=e2 (by omega)
   generalize stk.getD (stk.length - 1) 0=top at hft y0
   generalize stk.getD (stk.length - 2) 0=top2 at hft y1
   have i0:(0:Int)≤((stk.length - 1:Nat):Int):=by omega
   have i1:((stk.length - 1:Nat):Int)<(stk.length:Int):=by omega
   have i2:(0:Int)≤((stk.length - 2:Nat):Int):=by omega
   have i3:((stk.length - 2:Nat):Int)<(stk.length:Int):=by omega
   have HFT:=hid_ hft
   have HY:=hid_ (And.intro y0 y1)
   clear hft e1 e2 htop hloc hlt he2
   rcases hA with e | e | e <;> (
    rw [e] at x0
    clear e
    go_wp2_with (fail)
    refine (show Calls _ _ _ _ _ from berthref21_bitmap.calls top _ W (bit_f top)).mono ?_
    rintro e w2 ⟨rfl,hdw⟩
    have hb2:=Drawn0.below_ hdw
    have HD2:=hid_ (HB.out.trans (hb2.mono HB.out.size))
    replace x0:=aZA hb2 x0
    replace z0:=aZA hb2 z0
    replace y0:=aZA hb2 HY.out.1
    replace y1:=aZA hb2 HY.out.2
    clear hdw hb2 x1 x2 x3 z1
    by_cases hb:top=1∨top=2
    ·
     rw [decide_eq_true hb]
     by_cases hq:top2=top
     ·
      have HF:=hid_ (show freeT x stk loc=(2,top,0) by rw [HFT.out,if_neg (fun h=>h.elim (fun h=>h hb) (fun h=>h hq))])
      have b1:(top2 == top)=true:=beq_iff_eq.2 hq
      clear hb hq
      go_wp2_with (fail)
      go_ret3
      rw [HF.out]
      exact ⟨rfl,HD2.out⟩
     ·
      have HF:=hid_ (show freeT x stk loc=(0,0,215) by rw [HFT.out,if_pos (.inr hq)])
      have b1:(top2 == top)=false:=beq_eq_false_iff_ne.2 hq
      clear hb hq
      go_wp2_with (fail)
      go_ret3
      rw [HF.out]
      exact ⟨rfl,HD2.out⟩
    ·
     rw [decide_eq_false hb]
     have HF:=hid_ (show freeT x stk loc=(0,0,215) by rw [HFT.out,if_pos (.inl hb)])
     clear hb
     go_wp2_with (fail)
     go_ret3
     rw [HF.out]
     exact ⟨rfl,HD2.out⟩)
 ·
  by_cases h32:x.f0=32
  rotate_left
  ·
   have hop:x.f0=30∨x.f0=33∨x.f0=34∨x.f0=31∨x.f0=35:=by omega
   have n1:¬(x.f0=27∨x.f0=28∨x.f0=29):=by omega
   have hft:freeT x stk loc=if stk.length<1 then (0,0,214) else if x.f0=35 then (1,0,0) else if ¬(stk.getD (stk.length - 1) 0=1∨stk.getD (stk.length - 1) 0=2) then (0,0,215) else if x.f0=31 then (1,0,0) else (1,stk.getD (stk.length - 1) 0,0):=by
    unfold freeT cZ3
    rw [if_neg n1,if_neg h32]
    by_cases a:stk.length<1
    · rw [if_pos a,if_pos a]
    ·
     rw [if_neg a,if_neg a]
     by_cases b:x.f0=35
     · rw [if_pos b,if_pos b];rfl
     ·
      rw [if_neg b,if_neg b]
      by_cases c:¬(stk.getD (stk.length - 1) 0=1∨stk.getD (stk.length - 1) 0=2)
      · rw [if_pos c,if_pos c]
      ·
       rw [if_neg c,if_neg c]
       by_cases d:x.f0=31
       · rw [if_pos d,if_pos d];rfl
       · rw [if_neg d,if_neg d];rfl
   by_cases hlt:stk.length<1
   ·
    have q0:(stk.length:Int)<1:=by omega
    rw [if_pos hlt] at hft
    have HF:=hid_ hft
    clear hft e1 e2 htop hloc hA n1
    rcases hop with e|e|e|e|e <;> (rw [e] at x0;clear e;go_wp2_with (fail);go_ret3;rw [HF.out];exact ⟨rfl,HB.out⟩)
   ·
    have q0:¬(stk.length:Int)<1:=by omega
    rw [if_neg hlt] at hft
    obtain ⟨ad,rfl,y0⟩:=htop (stk.length - 1) (by omega)
    obtain ⟨w1,w2⟩:=e1 (by omega)
    generalize stk.getD (stk.length - 1) 0=top at hft y0
    have i0:(0:Int)≤((stk.length - 1:Nat):Int):=by omega
    have i1:((stk.length - 1:Nat):Int)<(stk.length:Int):=by omega
    have HFT:=hid_ hft
    clear hft e1 e2 htop hloc hlt hA n1
    rcases hop with e | e | e | e | e <;> (
     rw [e] at x0
     have HE:=hid_ e
     clear e
     go_wp2_with (fail)
     refine (show Calls _ _ _ _ _ from berthref21_bitmap.calls top _ W (bit_f top)).mono ?_
     rintro e w2 ⟨rfl,hdw⟩
     have hb2:=Drawn0.below_ hdw
     have HD2:=hid_ (HB.out.trans (hb2.mono HB.out.size))
     replace x0:=aZA hb2 x0
     replace z0:=aZA hb2 z0
     clear hdw hb2 x1 x2 x3 z1 y0
     by_cases hb:top=1∨top=2
     ·
      rw [decide_eq_true hb]
      have HH:=hid_ hb
      clear hb
      go_wp2_with (fail)
      go_ret3
      have he:=HE.out
      have hb:=HH.out
      rw [HFT.out]
      simp [he,hb,HD2.out]
     ·
      rw [decide_eq_false hb]
      have HH:=hid_ hb
      clear hb
      go_wp2_with (fail)
      go_ret3
      have he:=HE.out
      have hb:=HH.out
      rw [HFT.out]
      simp [he,hb,HD2.out])
  ·
   have n1:¬(x.f0=27∨x.f0=28∨x.f0=29):=by omega
   obtain ⟨ad,rfl,y0⟩:=hloc (h2 h32).1 (h2 h32).2
   obtain ⟨i0,i1⟩:=h2 h32
   have hft:freeT x stk loc=if loc.getD x.f1.toNat 0=0 then (0,0,217) else (0,loc.getD x.f1.toNat 0,0):=by
    unfold freeT cZ3
    rw [if_neg n1,if_pos h32]
    by_cases a:loc.getD x.f1.toNat 0=0
    · rw [if_pos a,if_pos a]
    · rw [if_neg a,if_neg a];rfl
   generalize loc.getD x.f1.toNat 0=lv at hft y0
   have q0:¬(stk.length:Int)<0:=by omega
   have HFT:=hid_ hft
   have HY:=hid_ y0
   rw [h32] at x0
   clear hft e1 e2 htop hloc hA n1 h2 h32 y0 h0 h1
   go_wp2_with (fail)
   refine (show Calls _ _ _ _ _ from berthref21_bitmap.calls 0 _ W (bit_f 0)).mono ?_
   rintro e w2 ⟨rfl,hdw⟩
   have hb2:=Drawn0.below_ hdw
   have HD2:=hid_ (HB.out.trans (hb2.mono HB.out.size))
   replace x0:=aZA hb2 x0
   replace x1:=aZA hb2 x1
   replace z1:=aZA hb2 z1
   have y0:=aZA hb2 HY.out
   clear hdw hb2 x2 x3 z0
   by_cases hv:lv=0
   ·
    have HF:=hid_ (show freeT x stk loc=(0,0,217) by rw [HFT.out,if_pos hv])
    have b0:(lv == 0)=true:=beq_iff_eq.2 hv
    clear hv
    go_wp2_with (fail)
    go_ret3
    rw [HF.out]
    exact ⟨rfl,HD2.out⟩
   ·
    have HF:=hid_ (show freeT x stk loc=(0,lv,0) by rw [HFT.out,if_neg hv])
    have b0:(lv == 0)=false:=beq_eq_false_iff_ne.2 hv
    clear hv
    go_upto_region 37 with (fail)
    go_region_held3 (fun w'=>w'.cell? ⟨w.heap.size,1,none⟩=some (.int .i64 x.f1)∧w'.cell? ⟨b1,1,none⟩=some (.slice (some ad) loc.length c2)∧w'.cell? (ad.add x.f1.toNat)=some (.int .i64 lv)) (go_keep) (fail)
    go_wp2_with (fail)
    go_ret3
    rw [HF.out]
    exact ⟨rfl,HD2.out.drew⟩
theorem lit_ints (W:World) (xs:List Int) (hx:xs.length≤100):(Kd.int .i64).R 3 (W.alloc (.cells (xs.map (fun x=>Value.int .i64 x)).toArray 3)) W.heap.size (fun _=>True) (.slice (some ⟨W.heap.size,0,none⟩) xs.length xs.length) xs:=by
  have h:=World.ownsRow_lit (base:=W.heap.size) (e:=3) (size:=1) W (xs.map (fun x=>Value.int .i64 x)).toArray xs.length (Nat.le_refl _) (by simp only [maxLen];omega) (by simp)
  have h2:(W.alloc (.cells (xs.map (fun x=>Value.int .i64 x)).toArray 3)).ownsRow W.heap.size 3 1 (.slice (some ⟨W.heap.size,0,none⟩) xs.length xs.length) xs.length (xs.map (Value.int .i64)):=by simpa using h
  exact ⟨fun _ _=>trivial,xs.map (Value.int .i64),h2,Kd.reps_scalar (enc:=Value.int .i64) xs⟩
theorem effect_any (op a:Int) (w:World) (h1:1≤op) (h2:op≤36) (g:¬(27≤op∧op≤35)) (K:List Int) (p:Int) (h:berthref21_Effect.f 8 op a=some (K,p)) :
 Calls Try.prog 38 #[.int .i64 op,.int .i64 a] w fun e w'=>∃ v0:Value,e=.returned (.tuple #[v0,.int .i64 p])∧Kd.R (Kd.int .i64) 3 w' w.heap.size (fun _=>True) v0 K∧Below w.heap.size w w':=by
 have hn:=Kd.R_nil (Kd.int .i64) 3 w w.heap.size (fun _=>True)
 have hop:op=1∨op=2∨op=3∨op=4∨op=5∨op=6∨op=7∨op=8∨op=9∨op=10∨op=11∨op=12∨op=13∨op=14∨op=15∨op=16∨op=17∨op=18∨op=19∨op=20∨op=21∨op=22∨op=23∨op=24∨op=25∨op=26∨op=36:=by omega
 have HL:=hid_ (fun xs hx=>lit_ints w xs hx)
 have HN:=hid_ hn
 clear hn h1 h2 g
 have HP:∀ (K':List Int) (p':Int),berthref21_Effect.f 8 op a=some (K',p')→K=K'∧p=p':=fun K' p' h'=>by
  rw [h'] at h;injection h with h;injection h with q1 q2;exact ⟨q1.symm,q2.symm⟩
 clear h
 rcases hop with rfl|rfl|rfl|rfl|rfl|rfl|rfl|rfl|rfl|rfl|rfl|rfl|rfl|rfl|rfl|rfl|rfl|rfl|rfl|rfl|rfl|rfl|rfl|rfl|rfl|rfl|rfl
 all_goals (
  obtain ⟨rfl,rfl⟩:=HP _ _ rfl
  clear HP
  go_enter Try.func38,Try.ntmps38
  go_wp2_with (fail)
  go_ret2
  first
   | exact ⟨_,rfl,HN.out,Below.refl _ _⟩
   | exact ⟨_,rfl,HL.out [_] (by decide),aZb (Below.refl _ _) _⟩
   | exact ⟨_,rfl,HL.out [_,_] (by decide),aZb (Below.refl _ _) _⟩)
theorem fZV (op:Int) (w:World) (h1:1≤op) (h2:op≤36) (a b c:Int) (h:berthref21_Operands.f 10 op=some (a,b,c)) :
 Calls Try.prog 96 #[.int .i64 op] w fun e w'=>e=.returned (.tuple #[.int .i64 a,.int .i64 b,.int .i64 c])∧Below w.heap.size w w':=by
 have HP:∀ (a' b' c':Int),berthref21_Operands.f 10 op=some (a',b',c')→a=a'∧b=b'∧c=c':=fun a' b' c' h'=>by
  rw [h'] at h;injection h with h;injection h with q1 q2;injection q2 with q2 q3;exact ⟨q1.symm,q2.symm,q3.symm⟩
 have hop:op=1∨op=2∨op=3∨op=4∨op=5∨op=6∨op=7∨op=8∨op=9∨op=10∨op=11∨op=12∨op=13∨op=14∨op=15∨op=16∨op=17∨op=18∨op=19∨op=20∨op=21∨op=22∨op=23∨op=24∨op=25∨op=26∨op=27∨op=28∨op=29∨op=30∨op=31∨op=32∨op=33∨op=34∨op=35∨op=36:=by omega
 clear h h1 h2
 rcases hop with rfl|rfl|rfl|rfl|rfl|rfl|rfl|rfl|rfl|rfl|rfl|rfl|rfl|rfl|rfl|rfl|rfl|rfl|rfl|rfl|rfl|rfl|rfl|rfl|rfl|rfl|rfl|rfl|rfl|rfl|rfl|rfl|rfl|rfl|rfl|rfl
 all_goals (
  obtain ⟨rfl,rfl,rfl⟩:=HP _ _ _ rfl
  clear HP
  go_enter Try.func96,Try.ntmps96
  go_wp2_with (fail)
  go_ret3
  exact ⟨rfl,Below.refl _ _⟩)
end Go.Proofs.Ytbnplhmmbnmagaa.D
