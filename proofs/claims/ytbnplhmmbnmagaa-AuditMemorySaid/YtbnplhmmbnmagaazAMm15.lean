/- Copy, plain; the contracts of Copy and Same over values that read as a program (turned from F1, F2 of the Code laws; no bound of 'small' here). -/
import Derived.Test.YtbnplhmmbnmagaazAMm13
import Derived.Test.YtbnplhmmbnmagaazAMm14
import Derived.Test.YtbnplhmmbnmagaazAMm2
import Derived.Test.YtbnplhmmbnmagaazAMm3
import Derived.Test.YtbnplhmmbnmagaazAMm4
set_option maxHeartbeats 4000000
set_option maxRecDepth 100000
set_option linter.all false
namespace Go.Proofs.Ytbnplhmmbnmagaa.D
open Go.RowKit Go.Proofs.YtbnplhmmbnmagaaW.PrintWords Go.Proofs.YtbnplhmmbnmagaaW.PrintLast Go.Proofs.YtbnplhmmbnmagaaW.PrintMore Go.Proofs.Ytbnplhmmbnmagaa.All
structure FitsB (g:Pg):Prop where
  T:g.T.length*16≤140737488351232
  N:g.N.length*8≤140737488351232
  S:g.S.length*24≤140737488351232
  M:g.M.length*24≤140737488351232
  C:g.C.length*32≤140737488351232
  SS:∀ x∈g.S,x.length*16≤140737488351232
  MM:∀ x∈g.M,x.length*8≤140737488351232
theorem FitsB.fits {g:Pg} (h:FitsB g):Fits g:=by
  obtain ⟨h1,h2,h3,h4,h5,h6,h7⟩:=h
  exact ⟨by omega,by omega,by omega,by omega,by omega,fun x hx=>by have:=h6 x hx;omega,fun x hx=>by have:=h7 x hx;omega⟩
theorem hZR (i n:Nat) (h:i<n) (hn:n≤140737488351232):wrap64 ((i:Int)+1)=((i+1:Nat):Int):=by rw [bZT _ (by omega) (by omega)];omega
theorem cntF_bytes:∀ f n,bZ9 (cntF f n)
  | 0,n,x,hx=>by
    unfold cntF at hx
    have:=List.mem_singleton.1 hx
    omega
  | f+1,n,x,hx=>by
    unfold cntF at hx
    split at hx
    · rcases List.mem_cons.1 hx with rfl|hx
      · omega
      · exact cntF_bytes f _ x hx
    · have:=List.mem_singleton.1 hx
      omega
theorem bZf {a b:List Int} (ha:bZ9 a) (hb:bZ9 b):bZ9 (a++b):=fun x hx=>(List.mem_append.1 hx).elim (ha x) (hb x)
theorem bZY {α:Type} (put:α→List Int) (l:List α) (h:∀ x,bZ9 (put x)):bZ9 (aZp put l):=by
  unfold aZp
  refine bZf (cntF_bytes _ _) (fun x hx=>?_)
  obtain ⟨y,hy,hxy⟩:=List.mem_flatten.1 hx
  obtain ⟨z,_,rfl⟩:=List.mem_map.1 hy
  exact h z x hxy
theorem fZ1 (s:ByteArray):bZ9 (bytesOf s):=by
  intro x hx
  unfold bytesOf at hx
  obtain ⟨b,_,rfl⟩:=List.mem_map.1 hx
  have:=b.toNat_lt
  omega
theorem dZP (s:ByteArray):bZ9 (aZ1 s):=bZf (cntF_bytes _ _) (fZ1 s)
theorem iZf (g:Pg):bZ9 (encP g):=by
 unfold encP
 refine bZf (bZf (bZf (bZf (bZf (bZf (bZf ?_ (cntF_bytes _ _)) (cntF_bytes _ _)) (bZY _ _ dZP)) (bZY _ _ (fun n=>cntF_bytes _ _))) (bZY _ _ (fun y=>bZY _ y dZP))) (bZY _ _ (fun y=>bZY _ y (fun n=>cntF_bytes _ _)))) (bZY _ _ (fun x=>?_))
 ·
  intro x hx
  simp only [List.mem_cons,List.not_mem_nil,or_false] at hx
  omega
 ·
  unfold aZV
  refine bZf (bZf (bZf (fun y hy=>by have:=List.mem_singleton.1 hy;omega) ?_) ?_) ?_ <;> (split;exact cntF_bytes _ _;exact fun y hy=>by cases hy)
theorem encP_len (g:Pg) (h:bZ7 g=true):(encP g).length≤700000000:=by
  obtain ⟨F1,F2,F3,F4,F5,F6,F7,F8,F9⟩:=dZz h
  unfold encP
  have a1:=aZZ g.dep
  have a2:=aZZ g.loc
  have a3:=bZA aZ1 137 g.T (fun s hs=>eZR s (F5 s hs))
  have a4:=bZA bZR 10 g.N (fun n _=>aZZ _)
  have a5:=bZA (aZp aZ1) 137010 g.S (fun y hy=>by have:=bZA aZ1 137 y (fun s hs=>eZR s ((F7 y hy).2 s hs));have:=(F7 y hy).1;omega)
  have a6:=bZA (aZp bZR) 10010 g.M (fun y hy=>by have:=bZA bZR 10 y (fun n _=>aZZ _);have:=(F8 y hy).1;omega)
  have a7:=bZA aZV 31 g.C (fun x _=>gZC x)
  simp only [List.length_append,List.length_cons,List.length_nil]
  omega
theorem encP_good (g:Pg) (h:bZ7 g=true):Good (encP g):=⟨iZf g,by have:=encP_len g h;omega⟩
theorem dZA (g:Pg) (h:bZ7 g=true):Fits g:=by
  obtain ⟨F1,F2,F3,F4,F5,F6,F7,F8,F9⟩:=dZz h
  exact ⟨by omega,by omega,by omega,by omega,by omega,fun x hx=>by have:=(F7 x hx).1;omega,fun x hx=>by have:=(F8 x hx).1;omega⟩
theorem IsPg.read {base:Nat} {g:Pg} {v:Value} {w:World} (h:IsPg base g v w):∃ A0 A1 A2 A3 A4 c0 c1 c2 c3 c4,v=aZ6 A0 A1 A2 A3 A4 c0 c1 c2 c3 c4 g∧InPg w A0 A1 A2 A3 A4 c0 c1 c2 c3 c4 g:=by
  obtain ⟨vT,vN,vS,vM,vC,rfl,hT,hN,hS,hM,hC⟩:=h
  obtain ⟨A0,c0,rfl,k0,r0⟩:=Kd.R_reads hT
  obtain ⟨A1,c1,rfl,k1,r1⟩:=Kd.R_reads hN
  obtain ⟨A2,c2,rfl,k2,r2⟩:=Kd.R_reads hS
  obtain ⟨A3,c3,rfl,k3,r3⟩:=Kd.R_reads hM
  obtain ⟨A4,c4,rfl,k4,r4⟩:=Kd.R_reads hC
  exact ⟨A0,A1,A2,A3,A4,c0,c1,c2,c3,c4,rfl,r0,r1,r2,r3,r4,k0,k1,k2,k3,k4⟩
set_option linter.unusedSectionVars false
theorem cZp (k:Nat) (x2:List Int) (x3:Int) (x1000:List Int) (x1001:Int) (x1002:Int) (x1003:Int):berthref20_Reader_head.l0 (k+1) x2 x3 x1000 x1001 x1002 x1003=if x3<4 then (if x3≥(x1000.length:Int) then ((berthref20_Reader_fail.f x1000 x1001 x1002 x1003 201 x3).bind fun bt345=>(some (bt345.1,bt345.2.1,bt345.2.2))) else (if 0≤x3 then (if x3<(x1000.length:Int) then (if x3<(x2.length:Int) then (if (rd x1000 x3)=(rd x2 x3) then (berthref20_Reader_head.l0 k x2 (wrap64 (x3+1)) x1000 x1001 x1002 x1003) else ((berthref20_Reader_fail.f x1000 x1001 x1002 x1003 200 x3).bind fun bt350=>(some (bt350.1,bt350.2.1,bt350.2.2)))) else (none)) else (none)) else (none))) else (some (4,x1002,x1003)):=rfl
theorem dZq (k:Nat) (x1:Int) (x2:Int) (x7:Int) (x8:Int) (x9:Int) (x1000:List Int) (x1001:Int) (x1002:Int) (x1003:Int):berthref20_Reader_count.l0 (k+1) x1 x2 x7 x8 x9 x1000 x1001 x1002 x1003=if x1001≥(x1000.length:Int) then ((berthref20_Reader_fail.f x1000 x1001 x1002 x1003 201 (x1000.length:Int)).bind fun bt353=>(some (0,bt353.1,bt353.2.1,bt353.2.2))) else (if 0≤x1001 then (if x1001<(x1000.length:Int) then (if (wrap64 ((wrap64 (x1001+1)) - x7))=9 then (berthref20_Reader_count.j1 k x1 x2 x7 x8 x9 (wrap64 (rd x1000 x1001)) (decide ((wrap64 (rd x1000 x1001))≥128)) x1000 (wrap64 (x1001+1)) x1002 x1003) else (berthref20_Reader_count.j1 k x1 x2 x7 x8 x9 (wrap64 (rd x1000 x1001)) false x1000 (wrap64 (x1001+1)) x1002 x1003)) else (none)) else (none)):=rfl
theorem dZr (k:Nat) (x1:Int) (x2:Int) (x7:Int) (x8:Int) (x9:Int) (x10:Int) (x65:Bool) (x1000:List Int) (x1001:Int) (x1002:Int) (x1003:Int):berthref20_Reader_count.j1 (k+1) x1 x2 x7 x8 x9 x10 x65 x1000 x1001 x1002 x1003=if x65=true then ((berthref20_Reader_fail.f x1000 x1001 x1002 x1003 202 x7).bind fun bt357=>(some (0,bt357.1,bt357.2.1,bt357.2.2))) else (if x10<128 then (if x10=0 then (if (wrap64 (x1001 - x7)) > 1 then ((berthref20_Reader_fail.f x1000 x1001 x1002 x1003 202 x7).bind fun bt360=>(some (0,bt360.1,bt360.2.1,bt360.2.2))) else (if (wrap64 (x8+(wrap64 ((Int.tmod x10 128)*x9))))<x1 then ((berthref20_Reader_fail.f x1000 x1001 x1002 x1003 205 x7).bind fun bt363=>(some (0,bt363.1,bt363.2.1,bt363.2.2))) else (if (wrap64 (x8+(wrap64 ((Int.tmod x10 128)*x9)))) > x2 then ((berthref20_Reader_fail.f x1000 x1001 x1002 x1003 205 x7).bind fun bt366=>(some (0,bt366.1,bt366.2.1,bt366.2.2))) else (some (wrap64 (x8+(wrap64 ((Int.tmod x10 128)*x9))),x1001,x1002,x1003))))) else (if (wrap64 (x8+(wrap64 ((Int.tmod x10 128)*x9))))<x1 then ((berthref20_Reader_fail.f x1000 x1001 x1002 x1003 205 x7).bind fun bt369=>(some (0,bt369.1,bt369.2.1,bt369.2.2))) else (if (wrap64 (x8+(wrap64 ((Int.tmod x10 128)*x9)))) > x2 then ((berthref20_Reader_fail.f x1000 x1001 x1002 x1003 205 x7).bind fun bt372=>(some (0,bt372.1,bt372.2.1,bt372.2.2))) else (some (wrap64 (x8+(wrap64 ((Int.tmod x10 128)*x9))),x1001,x1002,x1003))))) else (berthref20_Reader_count.l0 k x1 x2 x7 (wrap64 (x8+(wrap64 ((Int.tmod x10 128)*x9)))) (wrap64 (x9*128)) x1000 x1001 x1002 x1003)):=rfl
def RefOut {α:Type} (b:Int) (r:Except (Int × Int) (α × Int)) (x:α) (p2 k2 b2:Int):Prop :=
  match r with
  | .ok (y,q)=>x=y∧p2=q∧k2=0∧b2=b
  | .error (k,q)=>k2=k∧b2=q
theorem RefOut.err {α:Type} {b k q p2:Int} {x:α}:RefOut b (.error (k,q)) x p2 k q:=⟨rfl,rfl⟩
theorem RefOut.ok {α:Type} {b q:Int} {x:α}:RefOut b (.ok (x,q)) x q 0 b:=⟨rfl,rfl,rfl,rfl⟩
theorem eZP (bs:List Int) (p b a1 a2:Int):berthref20_Reader_fail.f bs p 0 b a1 a2=some (p,a1,a2):=by
  unfold berthref20_Reader_fail.f
  rw [if_pos rfl]
theorem pow128:∀ i:_root_.Fin 9,0<(128:Int) ^ i.1∧(128:Int) ^ i.1≤72057594037927936:=by decide
theorem step128 (m c u:Int) (h0:0≤m) (h1:m<u) (hu:u≤72057594037927936) (hc0:0≤c) (hc:c≤255) :
    wrap64 (m+wrap64 (Int.tmod c 128*u))=m+c % 128*u∧0≤m+c % 128*u∧m+c % 128*u<u*128:=by
  rw [Int.tmod_eq_emod_of_nonneg hc0]
  have hd:0≤c % 128∧c % 128≤127:=by omega
  generalize c % 128=d at hd
  have a0:0≤d*u:=Int.mul_nonneg hd.1 (by omega)
  have a1:d*u≤127*u:=Int.mul_le_mul_of_nonneg_right hd.2 (by omega)
  generalize d*u=e at a0 a1
  rw [bZT e (by omega) (by omega),bZT (m+e) (by omega) (by omega)]
  exact ⟨rfl,by omega,by omega⟩
theorem hZX (bs:List Int) (hb:bZ9 bs) (hlen:bs.length≤200000000000000) (frm lo hi b:Int) (h0:0≤frm):∀ (f i:Nat) (m:Int) (k:Nat),f+i=9→1≤f→2*f<k→0≤m→m<128 ^ i→frm+i≤bs.length →
 ∃ x p2 k2 b2,berthref20_Reader_count.l0 k lo hi frm m (128 ^ i) bs (frm+i) 0 b=some (x,p2,k2,b2)∧RefOut b (bZQ bs frm lo hi f i (frm+i) m) x p2 k2 b2∧(k2≠0→x=0):=by
 intro f
 induction f with
 | zero=>intro i m k _ h;omega
 | succ f ih =>
  intro i m k hfi _ hk hm hmu hle
  obtain ⟨k,rfl⟩:∃ j,k=j+2:=⟨k - 2,by omega⟩
  obtain ⟨hu0,hu1⟩:=pow128 ⟨i,by omega⟩
  dsimp only at hu0 hu1
  rw [dZq,aZP bs frm lo hi f i (frm+i) m _ _ rfl rfl]
  by_cases hend:(bs.length:Int)≤frm+i
  ·
   rw [if_pos hend,if_pos hend,eZP]
   exact ⟨_,_,_,_,rfl,RefOut.err,fun _=>rfl⟩
  ·
   rw [if_neg hend,if_neg hend,if_pos (by omega),if_pos (by omega)]
   have hc:rd bs (frm+i)=bs.getD (frm+i).toNat 0:=rfl
   have hcb:0≤bs.getD (frm+i).toNat 0∧bs.getD (frm+i).toNat 0≤255:=by
    rw [List.getD_eq_getElem?_getD,List.getElem?_eq_getElem (show (frm+i).toNat<bs.length by omega)]
    exact hb _ (List.getElem_mem _)
   rw [hc]
   clear hc
   generalize bs.getD (frm+i).toNat 0=c at hcb
   have hst:=step128 m c (128 ^ i) hm hmu hu1 hcb.1 hcb.2
   have hrec:128≤c→i≤7→∃ x p2 k2 b2,berthref20_Reader_count.l0 k lo hi frm (wrap64 (m+wrap64 (Int.tmod c 128*128 ^ i))) (wrap64 (128 ^ i*128)) bs (frm+i+1) 0 b=some (x,p2,k2,b2)∧RefOut b (bZQ bs frm lo hi f (i+1) (frm+i+1) (m+c % 128*128 ^ i)) x p2 k2 b2∧(k2≠0→x=0):=by
    intro _ hi7
    obtain ⟨v0,v1⟩:=pow128 ⟨i+1,by omega⟩
    dsimp only at v0 v1
    have e:(128:Int) ^ i*128=128 ^ (i+1):=(Int.pow_succ 128 i).symm
    rw [hst.1,bZT _ (by rw [e];omega) (by rw [e];omega),e]
    have:=ih (i+1) (m+c % 128*128 ^ i) k (by omega) (by omega) (by omega) hst.2.1 (by rw [←e];exact hst.2.2) (by omega)
    rw [show frm+((i+1:Nat):Int)=frm+i+1 by omega] at this
    exact this
   have w1:wrap64 (frm+i+1)=frm+i+1:=bZT _ (by omega) (by omega)
   have w2:wrap64 (frm+i+1 - frm)=(i:Int)+1:=by rw [bZT _ (by omega) (by omega)];omega
   have w3:wrap64 c=c:=bZT _ (by omega) (by omega)
   clear ih
   have hbody:∀ x65:Bool,(x65=true↔i=8∧128≤c)→∃ x p2 k2 b2,berthref20_Reader_count.j1 (k+1) lo hi frm m (128 ^ i) c x65 bs (frm+i+1) 0 b=some (x,p2,k2,b2) ∧
    RefOut b (if i=8∧128≤c then .error (202,frm) else if 128≤c then bZQ bs frm lo hi f (i+1) (frm+i+1) (m+c % 128*128 ^ i) else if c=0∧0<i then .error (202,frm) else if m+c % 128*128 ^ i<lo∨hi<m+c % 128*128 ^ i then .error (205,frm) else .ok (m+c % 128*128 ^ i,frm+i+1)) x p2 k2 b2∧(k2≠0→x=0):=by
    intro x65 h65
    rw [dZr,w2]
    by_cases hx:i=8∧128≤c
    ·
     rw [if_pos (h65.2 hx),if_pos hx,eZP]
     exact ⟨_,_,_,_,rfl,RefOut.err,fun _=>rfl⟩
    ·
     rw [if_neg (fun h=>hx (h65.1 h)),if_neg hx]
     by_cases h128:128≤c
     ·
      rw [if_neg (by omega),if_pos h128]
      exact hrec h128 (by omega)
     ·
      rw [if_pos (by omega),if_neg h128,hst.1]
      clear hrec
      generalize m+c % 128*128 ^ i=y at hst
      by_cases hz:c=0
      ·
       rw [if_pos hz]
       by_cases hi0:0<i
       ·
        rw [if_pos (by omega),if_pos ⟨hz,hi0⟩,eZP]
        exact ⟨_,_,_,_,rfl,RefOut.err,fun _=>rfl⟩
       ·
        rw [if_neg (by omega),if_neg (show ¬(c=0∧0<i) from fun h=>hi0 h.2)]
        by_cases hlo:y<lo
        ·
         rw [if_pos hlo,if_pos (Or.inl hlo),eZP]
         exact ⟨_,_,_,_,rfl,RefOut.err,fun _=>rfl⟩
        ·
         rw [if_neg hlo]
         by_cases hhi:y > hi
         ·
          rw [if_pos hhi,if_pos (Or.inr hhi),eZP]
          exact ⟨_,_,_,_,rfl,RefOut.err,fun _=>rfl⟩
         ·
          rw [if_neg hhi,if_neg (by omega)]
          exact ⟨_,_,_,_,rfl,RefOut.ok,fun h=>absurd rfl h⟩
      ·
       rw [if_neg hz,if_neg (show ¬(c=0∧0<i) from fun h=>hz h.1)]
       by_cases hlo:y<lo
       ·
        rw [if_pos hlo,if_pos (Or.inl hlo),eZP]
        exact ⟨_,_,_,_,rfl,RefOut.err,fun _=>rfl⟩
       ·
        rw [if_neg hlo]
        by_cases hhi:y > hi
        ·
         rw [if_pos hhi,if_pos (Or.inr hhi),eZP]
         exact ⟨_,_,_,_,rfl,RefOut.err,fun _=>rfl⟩
        ·
         rw [if_neg hhi,if_neg (by omega)]
         exact ⟨_,_,_,_,rfl,RefOut.ok,fun h=>absurd rfl h⟩
   rw [w1,w2,w3]
   by_cases h9:(i:Int)+1=9
   ·
    rw [if_pos h9]
    exact hbody _ (by rw [decide_eq_true_eq];omega)
   ·
    rw [if_neg h9]
    exact hbody _ ⟨(fun h=>by cases h),fun h=>absurd (show (i:Int)+1=9 by omega) h9⟩
theorem hZY (bs:List Int) (hb:bZ9 bs) (hlen:bs.length≤200000000000000) (p lo hi b:Int) (h0:0≤p) (h1:p≤bs.length):∃ x p2 k2 b2,berthref20_Reader_count.f 20 bs p 0 b lo hi=some (x,p2,k2,b2)∧RefOut b (aZn bs p lo hi) x p2 k2 b2∧(k2≠0→x=0):=by
  unfold berthref20_Reader_count.f
  rw [if_pos rfl]
  have h:=hZX bs hb hlen p lo hi b h0 9 0 0 20 rfl (by omega) (by omega) (by omega) (by decide) (by omega)
  rw [show p+((0:Nat):Int)=p by omega] at h
  exact h
set_option linter.unusedSectionVars false
theorem bZC (k:Nat) (x1:Int) (x5:List Int) (x6:Int) (x1000:List Int) (x1001:Int) (x1002:Int) (x1003:Int):berthref20_Reader_nums.l0 (k+1) x1 x5 x6 x1000 x1001 x1002 x1003=if x6<x1 then (berthref20_Reader_nums.j1 k x1 x5 x6 (x1002 == 0) x1000 x1001 x1002 x1003) else (berthref20_Reader_nums.j1 k x1 x5 x6 false x1000 x1001 x1002 x1003):=rfl
theorem bZD (k:Nat) (x1:Int) (x5:List Int) (x6:Int) (x19:Bool) (x1000:List Int) (x1001:Int) (x1002:Int) (x1003:Int):berthref20_Reader_nums.j1 (k+1) x1 x5 x6 x19 x1000 x1001 x1002 x1003=if x19=true then ((berthref20_Reader_signed.f k x1000 x1001 x1002 x1003).bind fun bt392=>(if x6 > 0 then (if bt392.2.2.1=0 then (if 0≤(wrap64 (x6 - 1)) then (if (wrap64 (x6 - 1))<(x5.length:Int) then (if bt392.1≤(rd x5 (wrap64 (x6 - 1))) then ((berthref20_Reader_fail.f x1000 bt392.2.1 bt392.2.2.1 bt392.2.2.2 204 x1001).bind fun bt397=>(if x5.length<17592186044416 then (berthref20_Reader_nums.l0 k x1 (x5++[bt392.1]) (wrap64 (x6+1)) x1000 bt397.1 bt397.2.1 bt397.2.2) else (none))) else (if x5.length<17592186044416 then (berthref20_Reader_nums.l0 k x1 (x5++[bt392.1]) (wrap64 (x6+1)) x1000 bt392.2.1 bt392.2.2.1 bt392.2.2.2) else (none))) else (none)) else (none)) else (if x5.length<17592186044416 then (berthref20_Reader_nums.l0 k x1 (x5++[bt392.1]) (wrap64 (x6+1)) x1000 bt392.2.1 bt392.2.2.1 bt392.2.2.2) else (none))) else (if x5.length<17592186044416 then (berthref20_Reader_nums.l0 k x1 (x5++[bt392.1]) (wrap64 (x6+1)) x1000 bt392.2.1 bt392.2.2.1 bt392.2.2.2) else (none)))) else (some (x5,x1001,x1002,x1003)):=rfl
theorem dZe (i:Nat) (h:0<i) (hn:i≤9223372036854775807):wrap64 ((i:Int) - 1)=((i - 1:Nat):Int):=by rw [bZT _ (by omega) (by omega)];omega
def Stk {α:Type} (p k b:Int) (r:Except (Int × Int) (α × Int)) (x:α) (p2 k2 b2:Int):Prop:=(k=0→RefOut b r x p2 k2 b2)∧(k≠0→p2=p∧k2=k∧b2=b)
theorem fail_n0 (bs:List Int) (p k b a1 a2:Int) (hk:k≠0):berthref20_Reader_fail.f bs p k b a1 a2=some (p,k,b):=by
  unfold berthref20_Reader_fail.f
  rw [if_neg hk]
section
variable (bs:List Int) (hb:bZ9 bs) (hlen:bs.length≤200000000000000)
include hb hlen
theorem fZf (p k b lo hi:Int) (h:k=0→0≤p∧p≤bs.length):∃ x p2 k2 b2,berthref20_Reader_count.f 20 bs p k b lo hi=some (x,p2,k2,b2)∧Stk p k b (aZn bs p lo hi) x p2 k2 b2∧(k2≠0→x=0):=by
 by_cases hk:k=0
 ·
  subst hk
  obtain ⟨x,p2,k2,b2,h1,h2,h3⟩:=hZY bs hb hlen p lo hi b (h rfl).1 (h rfl).2
  exact ⟨x,p2,k2,b2,h1,⟨fun _=>h2,fun h=>absurd rfl h⟩,h3⟩
 ·
  refine ⟨0,p,k,b,?_,⟨fun h=>absurd h hk,fun _=>⟨rfl,rfl,rfl⟩⟩,fun _=>rfl⟩
  unfold berthref20_Reader_count.f
  rw [if_neg hk]
theorem gZU (p k b:Int) (h:k=0→0≤p∧p≤bs.length):∃ x p2 k2 b2,berthref20_Reader_signed.f 20 bs p k b=some (x,p2,k2,b2)∧Stk p k b (numF bs p) x p2 k2 b2:=by
 obtain ⟨n,p2,k2,b2,h1,⟨h2,h3⟩,_⟩:=fZf bs hb hlen p k b 0 2000000000000000000 h
 have hn:k=0→k2=0→0≤n∧n≤2000000000000000000:=fun hk hk2=>by
  have:=h2 hk
  cases hc:aZn bs p 0 2000000000000000000 with
  | ok y =>
   obtain ⟨y,q⟩:=y
   rw [hc] at this
   have h4:=aZs hc
   rw [this.1]
   omega
  | error f =>
   obtain ⟨kk,q⟩:=f
   rw [hc] at this
   have ht:=(aZu bs 0 2000000000000000000 p (h hk).1 (h hk).2).1 kk q hc
   have:=this.1
   omega
 have hval : ∀ v : Int, (k = 0 → k2 = 0 → v = if n % 2 = 1 then -(n / 2) - 1 else n / 2) → Stk p k b (numF bs p) v p2 k2 b2 := fun v hv => ⟨fun hk => by
  have h4:=h2 hk
  unfold numF
  cases hc:aZn bs p 0 2000000000000000000 with
  | ok y =>
   obtain ⟨y,q⟩:=y
   rw [hc] at h4
   obtain ⟨e1,e2,e3,e4⟩:=h4
   subst e1
   exact ⟨hv hk e3,e2,e3,e4⟩
  | error f =>
   obtain ⟨kk,q⟩:=f
   rw [hc] at h4
   exact h4,h3⟩
 unfold berthref20_Reader_signed.f
 rw [h1,Option.bind_some]
 dsimp only
 by_cases hm:Int.tmod n 2=0
 ·
  rw [if_pos hm]
  refine ⟨_,_,_,_,rfl,hval _ fun hk hk2=>?_⟩
  obtain ⟨a0,a1⟩:=hn hk hk2
  rw [Int.tmod_eq_emod_of_nonneg a0] at hm
  rw [Int.tdiv_eq_ediv_of_nonneg a0,bZT _ (by omega) (by omega),if_neg (by omega)]
 ·
  rw [if_neg hm]
  refine ⟨_,_,_,_,rfl,hval _ fun hk hk2=>?_⟩
  obtain ⟨a0,a1⟩:=hn hk hk2
  rw [Int.tmod_eq_emod_of_nonneg a0] at hm
  rw [Int.tdiv_eq_ediv_of_nonneg a0,bZT (n / 2) (by omega) (by omega),bZT (-(n / 2)) (by omega) (by omega),bZT _ (by omega) (by omega),if_pos (by omega)]
theorem refNums_l (n:Nat) (hn:n≤5000) (F:Except (Int × Int) (List Int × Int)) (b0:Int):∀ (r i fu:Nat) (acc:List Int) (p k b:Int),n - i=r→i≤n→2*r+30<fu→acc.length=i→(k=0→0≤p∧p≤bs.length∧b=b0∧aZr 0 (numF bs) cmpI (n - i) p acc=F)→(k≠0→F=.error (k,b)) →
 ∃ res p2 k2 b2,berthref20_Reader_nums.l0 fu n acc i bs p k b=some (res,p2,k2,b2)∧RefOut b0 F res p2 k2 b2∧res.length≤n:=by
 intro r
 induction r with
 | zero =>
  intro i fu acc p k b hr hi hf ha h0 h1
  obtain ⟨fu,rfl⟩:∃ m,fu=m+2:=⟨fu - 2,by omega⟩
  rw [bZC,if_neg (by omega),bZD,if_neg (by decide)]
  refine ⟨_,_,_,_,rfl,?_,by omega⟩
  by_cases hk:k=0
  ·
   obtain ⟨_,_,h4,h5⟩:=h0 hk
   rw [hr] at h5
   rw [←h5]
   exact ⟨rfl,rfl,hk,h4⟩
  ·
   rw [h1 hk]
   exact ⟨rfl,rfl⟩
 | succ r ih =>
  intro i fu acc p k b hr hi hf ha h0 h1
  obtain ⟨fu,rfl⟩:∃ m,fu=m+2:=⟨fu - 2,by omega⟩
  rw [bZC,if_pos (by omega),bZD]
  by_cases hk:k=0
  ·
   subst hk
   rw [if_pos (by rfl)]
   obtain ⟨hp0,hp1,hb0,hL⟩:=h0 rfl
   obtain ⟨x,p2,k2,b2,g1,g2,_⟩:=gZU bs hb hlen p 0 b (fun _=>⟨hp0,hp1⟩)
   have g1':berthref20_Reader_signed.f fu bs p 0 b=some (x,p2,k2,b2):=at_rounds (fun j=>berthref20_Reader_signed.mono bs p 0 b j) (by omega) g1
   rw [g1',Option.bind_some]
   dsimp only
   have g3:=g2 rfl
   clear g1 g1' g2
   rw [show n - i=(n - i - 1)+1 by omega] at hL
   unfold aZr at hL
   have hin:((i:Nat):Int) > 0↔0<acc.length:=by omega
   have hin2:i<n:=by omega
   have hn2:n≤9223372036854775807:=by omega
   have hal:acc.length<17592186044416:=by omega
   cases hc:numF bs p with
   | error f =>
    obtain ⟨kk,q⟩:=f
    rw [hc] at g3 hL
    obtain ⟨e1,e2⟩:=g3
    subst e1 e2
    have ht:=(cZB bs p hp0 hp1).1 _ _ hc
    have hk2:k2≠0:=by omega
    have H:=ih (i+1) fu (acc++[x]) p2 k2 b2 (by omega) (by omega) (by omega) (by rw [List.length_append,ha];rfl) (fun h=>absurd h hk2) (fun _=>hL.symm)
    rw [bZS i n hin2 hn2]
    by_cases hi0:(i:Int) > 0
    ·
     rw [if_pos hi0,if_neg hk2,if_pos hal]
     exact H
    ·
     rw [if_neg hi0,if_pos hal]
     exact H
   | ok y =>
    obtain ⟨y,q⟩:=y
    rw [hc] at g3 hL
    obtain ⟨e1,e2,e3,e4⟩:=g3
    subst e1 e2 e3 e4
    have ht:=(cZB bs p hp0 hp1).2 _ _ hc
    dsimp only at hL
    by_cases hi0:(i:Int) > 0
    ·
     have wp:wrap64 ((i:Int) - 1)=((i - 1:Nat):Int):=by rw [bZT _ (by omega) (by omega)];omega
     rw [if_pos hi0,if_pos rfl,wp,if_pos (by omega),if_pos (by omega)]
     have hrd:rd acc ((i - 1:Nat):Int)=acc.getD (acc.length - 1) 0:=by unfold rd;rw [Int.toNat_natCast,ha]
     rw [hrd]
     have hcl:0≤cmpI (acc.getD (acc.length - 1) 0) x↔x≤acc.getD (acc.length - 1) 0:=by unfold cmpI;split <;> (try split) <;> omega
     by_cases hle:x≤acc.getD (acc.length - 1) 0
     ·
      rw [if_pos hle,eZP,Option.bind_some]
      rw [if_pos ⟨by omega,hcl.2 hle⟩] at hL
      dsimp only
      rw [if_pos hal,bZS i n hin2 hn2]
      exact ih (i+1) fu (acc++[x]) p2 204 p (by omega) (by omega) (by omega) (by rw [List.length_append,ha];rfl) (fun h=>absurd h (by decide)) (fun _=>hL.symm)
     ·
      rw [if_neg hle,if_pos hal,bZS i n hin2 hn2]
      rw [if_neg (fun h=>hle (hcl.1 h.2))] at hL
      exact ih (i+1) fu (acc++[x]) p2 0 b2 (by omega) (by omega) (by omega) (by rw [List.length_append,ha];rfl) (fun _=>⟨by omega,by omega,hb0,by rw [show n - (i+1)=n - i - 1 by omega];exact hL⟩) (fun h=>absurd rfl h)
    ·
     rw [if_neg hi0,if_pos hal,bZS i n hin2 hn2]
     rw [if_neg (fun h=>by have:=h.1;omega)] at hL
     exact ih (i+1) fu (acc++[x]) p2 0 b2 (by omega) (by omega) (by omega) (by rw [List.length_append,ha];rfl) (fun _=>⟨by omega,by omega,hb0,by rw [show n - (i+1)=n - i - 1 by omega];exact hL⟩) (fun h=>absurd rfl h)
  ·
   rw [if_neg (show ¬((k == 0)=true) by simp [hk])]
   refine ⟨_,_,_,_,rfl,?_,by omega⟩
   rw [h1 hk]
   exact ⟨rfl,rfl⟩
theorem refHead_l (b:Int):∀ (d i fu:Nat),d+i=4→d+1<fu→i≤bs.length→∃ p2 k2 b2,berthref20_Reader_head.l0 fu [66,82,84,1] i bs 0 0 b=some (p2,k2,b2)∧(match bZ6 bs d i with|none=>p2=4∧k2=0∧b2=b|some f=>k2=f.1∧b2=f.2):=by
 intro d
 induction d with
 | zero =>
  intro i fu hd hf hi
  obtain ⟨fu,rfl⟩:∃ m,fu=m+1:=⟨fu - 1,by omega⟩
  rw [cZp,if_neg (by omega)]
  exact ⟨_,_,_,rfl,rfl,rfl,rfl⟩
 | succ d ih =>
  intro i fu hd hf hi
  obtain ⟨fu,rfl⟩:∃ m,fu=m+1:=⟨fu - 1,by omega⟩
  rw [cZp,if_pos (by omega)]
  unfold bZ6
  by_cases he:bs.length≤i
  ·
   rw [if_pos (by omega),if_pos he,eZP]
   refine ⟨_,_,_,rfl,rfl,?_⟩
   show (i:Int)=bs.length
   omega
  ·
   rw [if_neg (by omega),if_neg he,if_pos (by omega),if_pos (by omega),if_pos (by simp only [List.length_cons,List.length_nil];omega)]
   have e1:rd bs (i:Int)=bs.getD i 0:=by unfold rd;rw [Int.toNat_natCast]
   have e2:rd [66,82,84,1] (i:Int)=eZk i:=by
    unfold rd eZk
    rw [Int.toNat_natCast]
    match i,(show i<4 by omega) with
    | 0,_=>rfl
    | 1,_=>rfl
    | 2,_=>rfl
    | 3,_=>rfl
   rw [e1,e2]
   clear e1 e2
   by_cases hh:bs.getD i 0=eZk i
   ·
    rw [if_pos hh,if_neg (fun h=>h hh),bZS i 4 (by omega) (by omega)]
    exact ih (i+1) fu (by omega) (by omega) (by omega)
   ·
    rw [if_neg hh,if_pos hh,eZP]
    exact ⟨_,_,_,rfl,rfl,rfl⟩
end
def eZZ {α:Type} (w0 w:World) (g:Nat) (bs:List Int) (p k b:Int) (r:Except (Int × Int) (α × Int)) (V:α→Value→World→Prop) (e:Ending) (w':World):Prop :=
  ∃ v x p2 k2 b2,e=.returned v∧V x v w'∧IsS136 w0 w' g bs p2 k2 b2∧Below w0.heap.size w0 w'∧KeepBut w w' g none∧Stk p k b r x p2 k2 b2
section
variable (bs:List Int) (hb:bZ9 bs) (hlen:bs.length≤200000000000000) (w0 w:World) (g:Nat) (p k b:Int) (hI:IsS136 w0 w g bs p k b) (hB:Below w0.heap.size w0 w) (h:k=0→0≤p∧p≤bs.length)
include hb hlen hI hB h
theorem bZ4 (lo hi:Int):Calls Try.prog 61 #[.pointer (some ⟨g,0,none⟩),.int .i64 lo,.int .i64 hi] w fun e w'=>∃ x p2 k2 b2,e=.returned (.int .i64 x)∧IsS136 w0 w' g bs p2 k2 b2∧Below w0.heap.size w0 w'∧KeepBut w w' g none∧Stk p k b (aZn bs p lo hi) x p2 k2 b2∧(k2≠0→x=0):=by
 obtain ⟨x,p2,k2,b2,h1,h2,h3⟩:=fZf bs hb hlen p k b lo hi h
 refine (berthref20_Reader_count.calls 20 g bs p k b lo hi x p2 k2 b2 w0 w hI hB h1).mono ?_
 rintro e w' ⟨rfl,i1,i2,i3⟩
 exact ⟨x,p2,k2,b2,rfl,i1,i2,i3,h2,h3⟩
theorem cZy (lo hi:Int):Calls Try.prog 61 #[.pointer (some ⟨g,0,none⟩),.int .i64 lo,.int .i64 hi] w (eZZ w0 w g bs p k b (aZn bs p lo hi) (fun x v _=>v=.int .i64 x)):=by
 refine (bZ4 bs hb hlen w0 w g p k b hI hB h lo hi).mono ?_
 rintro e w' ⟨x,p2,k2,b2,rfl,i1,i2,i3,h2,_⟩
 exact ⟨_,x,p2,k2,b2,rfl,rfl,i1,i2,i3,h2⟩
theorem rNumsN (n:Nat) (hn:n≤5000):Calls Try.prog 63 #[.pointer (some ⟨g,0,none⟩),.int .i64 n] w (eZZ w0 w g bs p k b (aZr 0 (numF bs) cmpI n p []) (fun x v w'=>(Kd.int .i64).R 3 w' w.heap.size (fun _=>True) v x∧x.length≤n)):=by
 have hh:∃ res p2 k2 b2,berthref20_Reader_nums.f (2*n+31) bs p k b n=some (res,p2,k2,b2)∧Stk p k b (aZr 0 (numF bs) cmpI n p []) res p2 k2 b2∧res.length≤n:=by
  unfold berthref20_Reader_nums.f
  by_cases hk:k=0
  ·
   subst hk
   obtain ⟨res,p2,k2,b2,h1,h2,hl⟩:=refNums_l bs hb hlen n hn (aZr 0 (numF bs) cmpI n p []) b n 0 (2*n+31) [] p 0 b rfl (by omega) (by omega) rfl (fun _=>⟨(h rfl).1,(h rfl).2,rfl,rfl⟩) (fun h=>absurd rfl h)
   exact ⟨res,p2,k2,b2,h1,⟨fun _=>h2,fun h=>absurd rfl h⟩,hl⟩
  ·
   refine ⟨[],p,k,b,?_,⟨fun h=>absurd h hk,fun _=>⟨rfl,rfl,rfl⟩⟩,by simp⟩
   rw [show 2*n+31=(2*n+29)+1+1 by omega,bZC]
   have e:(k == 0)=false:=by simp [hk]
   rw [e]
   split <;> rw [bZD,if_neg (by decide)]
 obtain ⟨res,p2,k2,b2,h1,h2,hl⟩:=hh
 refine (berthref20_Reader_nums.calls _ g bs p k b n res p2 k2 b2 w0 w hI hB h1).mono ?_
 rintro e w' ⟨v,rfl,i0,i1,i2,i3⟩
 exact ⟨v,res,p2,k2,b2,rfl,⟨i0,hl⟩,i1,i2,i3,h2⟩
theorem rNums (n:Nat) (hn:n≤5000):Calls Try.prog 63 #[.pointer (some ⟨g,0,none⟩),.int .i64 n] w (eZZ w0 w g bs p k b (aZr 0 (numF bs) cmpI n p []) (fun x v w'=>(Kd.int .i64).R 3 w' w.heap.size (fun _=>True) v x)):=by
 refine (rNumsN bs hb hlen w0 w g p k b hI hB h n hn).mono ?_
 rintro e w' ⟨v,x,p2,k2,b2,rfl,hv,hr⟩
 exact ⟨v,x,p2,k2,b2,rfl,hv.1,hr⟩
end
theorem rHead (bs:List Int) (hb:bZ9 bs) (hlen:bs.length≤200000000000000) (w0 w:World) (g:Nat) (b:Int) (hI:IsS136 w0 w g bs 0 0 b) (hB:Below w0.heap.size w0 w) :
 Calls Try.prog 60 #[.pointer (some ⟨g,0,none⟩)] w fun e w'=>e=.returned (.tuple #[])∧∃ p2 k2 b2,IsS136 w0 w' g bs p2 k2 b2∧Below w0.heap.size w0 w'∧KeepBut w w' g none∧(match bZ6 bs 4 0 with|none=>p2=4∧k2=0∧b2=b|some f=>k2=f.1∧b2=f.2):=by
 obtain ⟨p2,k2,b2,h1,h2⟩:=refHead_l bs hb hlen b 4 0 6 rfl (by omega) (by omega)
 refine (berthref20_Reader_head.calls 6 g bs 0 0 b p2 k2 b2 w0 w hI hB h1).mono ?_
 rintro e w' ⟨rfl,i1,i2,i3⟩
 exact ⟨rfl,p2,k2,b2,i1,i2,i3,h2⟩
theorem fZN (bs:List Int) (w0 w:World) (g:Nat) (p k b a1 a2:Int) (hI:IsS136 w0 w g bs p k b) (hB:Below w0.heap.size w0 w) :
 Calls Try.prog 66 #[.pointer (some ⟨g,0,none⟩),.int .i64 a1,.int .i64 a2] w fun e w'=>e=.returned (.tuple #[])∧(if k=0 then IsS136 w0 w' g bs p a1 a2 else IsS136 w0 w' g bs p k b)∧Below w0.heap.size w0 w'∧KeepBut w w' g none:=by
 by_cases hk:k=0
 ·
  subst hk
  refine (berthref20_Reader_fail.calls g bs p 0 b a1 a2 p a1 a2 w0 w hI hB (eZP _ _ _ _ _)).mono ?_
  rintro e w' ⟨rfl,i1,i2,i3⟩
  exact ⟨rfl,by rw [if_pos rfl];exact i1,i2,i3⟩
 ·
  refine (berthref20_Reader_fail.calls g bs p k b a1 a2 p k b w0 w hI hB (fail_n0 _ _ _ _ _ _ hk)).mono ?_
  rintro e w' ⟨rfl,i1,i2,i3⟩
  exact ⟨rfl,by rw [if_neg hk];exact i1,i2,i3⟩
set_option linter.unusedSectionVars false
theorem aZX {w0 W:World} {g:Nat} {bs:List Int} {p k b:Int} (h:IsS136 w0 W g bs p k b):∃ A c,W.cell? ⟨g,0,none⟩=some (.slice A bs.length c)∧W.cell? ⟨g,1,none⟩=some (.int .i64 p)∧W.cell? ⟨g,2,none⟩=some (.int .i64 k)∧W.cell? ⟨g,3,none⟩=some (.int .i64 b)∧(∀ i,W.frozen? ⟨g,i,none⟩=false)∧bs.length≤c∧Kd.C (Kd.int .u8) w0 A bs.length bs:=by
  obtain ⟨A,c,hb,hg,hC,hc⟩:=h
  exact ⟨A,c,by simp [World.cell?,hb],by simp [World.cell?,hb],by simp [World.cell?,hb],by simp [World.cell?,hb],fun i=>by simp [World.frozen?,hb],hc,hC⟩
theorem Stk.got {bs:List Int} {p k b lo hi x p2 k2 b2:Int} (hs:Stk p k b (aZn bs p lo hi) x p2 k2 b2) (h:k=0→0≤p∧p≤bs.length) (hk2:k2=0):k=0∧aZn bs p lo hi=.ok (x,p2)∧b2=b∧lo≤x∧x≤hi∧p<p2∧p2≤bs.length:=by
 by_cases hk:k=0
 ·
  have h1:=hs.1 hk
  cases hc:aZn bs p lo hi with
  | error f =>
   obtain ⟨kk,q⟩:=f
   rw [hc] at h1
   have:=(aZu bs lo hi p (h hk).1 (h hk).2).1 kk q hc
   have:=h1.1
   omega
  | ok y =>
   obtain ⟨y,q⟩:=y
   rw [hc] at h1
   obtain ⟨e1,e2,e3,e4⟩:=h1
   have h5:=aZs hc
   subst e1 e2
   exact ⟨hk,rfl,e4,h5.1,h5.2.1,h5.2.2.1,h5.2.2.2⟩
 ·
  have:=(hs.2 hk).2.1
  omega
theorem Stk.bad {α:Type} {bs:List Int} {p k b lo hi x p2 k2 b2:Int} (hs:Stk p k b (aZn bs p lo hi) x p2 k2 b2) (hk2:k2≠0) {r:Except (Int × Int) (α × Int)} (hr:∀ f,aZn bs p lo hi=.error f→r=.error f) (y:α):Stk p k b r y p2 k2 b2:=by
  refine ⟨fun hk=>?_,hs.2⟩
  have h1:=hs.1 hk
  cases hc:aZn bs p lo hi with
  | error f =>
    obtain ⟨kk,q⟩:=f
    rw [hc] at h1
    rw [hr _ hc]
    exact h1
  | ok z =>
    obtain ⟨z,q⟩:=z
    rw [hc] at h1
    exact absurd h1.2.2.1 hk2
theorem KeepBut.trans' {w w1 w2:World} {g:Nat} (h1:KeepBut w w1 g none) (h2:KeepBut w1 w2 g none):KeepBut w w2 g none :=
  ⟨Nat.le_trans h1.1 h2.1,fun k hk h3 h4=>(h2.2 k (by have:=h1.1;omega) h3 h4).trans (h1.2 k hk h3 h4)⟩
theorem rText (bs:List Int) (hb:bZ9 bs) (hlen:bs.length≤200000000000000) (w0 w:World) (g:Nat) (p k b:Int) (hI:IsS136 w0 w g bs p k b) (hB:Below w0.heap.size w0 w) (h:k=0→0≤p∧p≤bs.length) :
 Calls Try.prog 99 #[.pointer (some ⟨g,0,none⟩)] w (eZZ w0 w g bs p k b (bZh bs p) (fun x v _=>v=.string x)):=by
 have HC:=cZy bs hb hlen w0 w g p k b hI hB h 0 127
 go_enter Try.func99,Try.ntmps99
 go_wp2_with (fail)
 refine HC.mono ?_
 rintro e w1 ⟨v,x,p2,k2,b2,rfl,rfl,hI1,hB1,hK1,hS⟩
 clear HC
 obtain ⟨A,c,q0,q1,q2,q3,z,hc,hC⟩:=aZX hI1
 by_cases hk2:k2=0
 ·
  obtain ⟨hk,hcf,rfl,hx0,hx1,hp0,hp1⟩:=hS.got h hk2
  subst hk hk2
  by_cases hcut:bs.length - p2<x
  ·
   have e1:bZh bs p=.error (201,bs.length):=by unfold bZh;rw [hcf];dsimp only;rw [if_pos hcut]
   have w1e:wrap64 ((bs.length:Int) - p2)=bs.length - p2:=bZT _ (by omega) (by omega)
   go_wp2_with (fail)
   go_region
   have HF:=fZN bs w0 w1.drew g p2 0 b2 201 bs.length hI1.drew hB1.drew
   go_wp2_with ((with_reducible refine HF.mono ?_);rintro e w2 ⟨rfl,hI2,hB2,hK2⟩)
   rw [if_pos trivial] at hI2
   go_ret
   refine ⟨_,ByteArray.empty,p2,201,bs.length,rfl,rfl,hI2,hB2,KeepBut.trans' hK1 hK2,fun _=>?_,fun h=>absurd rfl h⟩
   rw [e1]
   exact RefOut.err
  ·
   have e1:bZh bs p=.ok (strOfNums ((bs.take (p2+x).toNat).drop p2.toNat),p2+x):=by unfold bZh;rw [hcf];dsimp only;rw [if_neg hcut]
   have hsl:=cut34 A bs.length c p2 (p2+x) (by omega) (by omega) (by omega) hc
   have hg:=hI1.ge
   have hI2:=(hI1.set_1 (p2+x)).drew.drew
   have hB2:=(hB1.setCell (show w0.heap.size≤(⟨g,1,none⟩:Addr).block from hg) (.int .i64 (p2+x))).drew.drew
   have hm:=Kd.C_mid (lo:=p2.toNat) (hi:=(p2+x).toNat) (Kd.C_below hC hB2) (by omega) (by omega) hc
   have hln:((bs.take (p2+x).toNat).drop p2.toNat).length=(p2+x).toNat - p2.toNat:=by rw [List.length_drop,List.length_take];omega
   rw [hln] at hm
   have hk1:(Kd.int .u8).sz=1:=rfl
   rw [hk1,Nat.mul_one] at hm
   generalize (if c=p2.toNat then A else Option.map (fun x=>x.add p2.toNat) A)=A' at hsl hm
   have H1:=Kd.C_string (P:=Try.prog) (c:=c - p2.toNat) Try.underlying53 Try.underlying5 Try.underlying9 hm
   clear hm hln hk1
   have hcut2:¬(bs.length:Int) - p2<x:=hcut
   have w1e:wrap64 ((bs.length:Int) - p2)=bs.length - p2:=bZT _ (by omega) (by omega)
   have w2e:wrap64 (p2+x)=p2+x:=bZT _ (by omega) (by omega)
   have w3e:wrap64 p2=p2:=bZT _ (by omega) (by omega)
   go_wp2_with (fail)
   go_region
   go_wp2_with (fail)
   go_region
   go_wp2_with (fail)
   go_ret
   refine ⟨_,_,p2+x,0,b2,rfl,rfl,hI2,hB2,?_,fun _=>?_,fun h=>absurd rfl h⟩
   · exact KeepBut.trans' hK1 ⟨by simp,fun k _ hk _=>Below.heap_setCell _ _ _ _ (by simpa using hk)⟩
   ·
    rw [e1]
    exact RefOut.ok
 ·
  go_wp2_with (fail)
  go_ret
  exact ⟨_,ByteArray.empty,p2,k2,b2,rfl,rfl,hI1,hB1,hK1,hS.bad hk2 (fun f hf=>by unfold bZh;rw [hf]) _⟩
set_option linter.unusedSectionVars false
theorem hZ4 (W:World) (g:Nat) (hg:g<W.heap.size):Kd.string.R 9 (W.alloc (.cells #[] 9)) W.heap.size (fun k=>k≠g) (.slice (some ⟨W.heap.size,0,none⟩) 0 0) []:=by
  have h:=World.ownsRow_lit (base:=W.heap.size) (e:=9) (size:=1) W #[] 0 (Nat.le_refl _) (by simp [maxLen]) (by simp)
  exact ⟨fun k hk=>by (have h2:W.heap.size=k:=by simpa [Value.ownBlock] using hk);omega,[],(show (W.alloc (.cells #[] 9)).ownsRow W.heap.size 9 1 _ 0 [] from by simpa using h),Kd.reps_scalar (enc:=Value.string) []⟩
structure StLr {α:Type} (d:Kd α) (t:Nat) (w0 w wr:World) (g:Nat) (bs:List Int) (p k b:Int) (n j:Nat) (F:Except (Int × Int) (List α × Int)) (L:Nat→Int→List α→Except (Int × Int) (List α × Int)) (out:Value) (acc:List α) (p2 k2 b2:Int):Prop where
  le:j≤n
  len:acc.length=j
  row:d.R t wr w.heap.size (fun k=>k≠g) out acc
  rd:IsS136 w0 wr g bs p2 k2 b2
  below:Below w0.heap.size w0 wr
  keep:KeepBut w wr g none
  good:k2=0→k=0∧0≤p2∧p2≤bs.length∧b2=b∧L (n - j) p2 acc=F
  bad:k2≠0→(k=0∧F=.error (k2,b2))∨(k≠0∧p2=p∧k2=k∧b2=b)
theorem StLr.after {α:Type} {d:Kd α} {t:Nat} {w0 w wr w3 w4:World} {g:Nat} {bs:List Int} {p k b:Int} {n j:Nat} {F:Except (Int × Int) (List α × Int)} {L:Nat→Int→List α→Except (Int × Int) (List α × Int)} {out:Value} {acc:List α} {p2 k2 b2 p3 k3 b3:Int}
    (hS:StLr d t w0 w wr g bs p k b n j F L out acc p2 k2 b2) (hw:w0.heap.size≤w.heap.size) (hK:KeepBut wr w3 g none) (hI:IsS136 w0 w3 g bs p3 k3 b3) (hB:Below w0.heap.size w0 w3) (hg:w3.grownBy w4 out.ownBlock) :
    IsS136 w0 w4 g bs p3 k3 b3∧Below w0.heap.size w0 w4∧KeepBut w w4 g none:=by
  have hsz:=hS.keep.1
  have hb:=Kd.R_base hS.row
  refine ⟨hI.grown hg (fun e=>hS.row.1 g e.symm rfl),hB.grown hg (by have:=hK.1;omega) (fun k hk=>by have:=hb k hk;omega),?_⟩
  refine ⟨by have:=hg.size;have:=hK.1;omega,fun k hk h1 h2=>?_⟩
  rw [hg.block k (by have:=hK.1;omega) (fun e=>by have:=hb k e.symm;omega)]
  exact (KeepBut.trans' hS.keep hK).2 k hk h1 h2
theorem rTextsN (bs:List Int) (hb:bZ9 bs) (hlen:bs.length≤200000000000000) (w0 w:World) (g:Nat) (p k b:Int) (hI:IsS136 w0 w g bs p k b) (hB:Below w0.heap.size w0 w) (h:k=0→0≤p∧p≤bs.length) (n:Nat) (hn:n≤5000) :
 Calls Try.prog 62 #[.pointer (some ⟨g,0,none⟩),.int .i64 n] w (eZZ w0 w g bs p k b (aZr ByteArray.empty (bZh bs) cmpS n p []) (fun x v w'=>Kd.string.R 9 w' w.heap.size (fun _=>True) v x∧x.length≤n)):=by
 have hgl:=hI.lt
 have hw:=hB.size
 go_enter Try.func62,Try.ntmps62
 go_wp2_with (fail)
 generalize hF:aZr ByteArray.empty (bZh bs) cmpS n p []=F
 have HF:=hid_ hF;clear hF
 have hS0:StLr Kd.string 9 w0 w (w.alloc (.cells #[] 9)) g bs p k b n 0 F (aZr ByteArray.empty (bZh bs) cmpS) (.slice (some ⟨w.heap.size,0,none⟩) 0 0) [] p k b :=
  ⟨Nat.zero_le _,rfl,hZ4 w g hgl,hI.alloc _,aZa hB _,⟨by simp,fun k hk _ _=>heap_alloc_old w _ hk⟩,fun hk=>⟨hk,(h hk).1,(h hk).2,rfl,HF.out⟩,fun hk=>.inr ⟨hk,rfl,rfl,rfl⟩⟩
 clear hI hB
 go_loopw [5,6] (fun out i wr=>∃ (j:Nat) (acc:List ByteArray) (p2 k2 b2:Int),i=.int .i64 j∧StLr Kd.string 9 w0 w wr g bs p k b n j F (aZr ByteArray.empty (bZh bs) cmpS) out acc p2 k2 b2) (fun _ i _=>n - (intOf i).toNat)
 case atStart=>exact ⟨0,[],p,k,b,rfl,hS0⟩
 case round =>
  clear hS0
  obtain ⟨j,acc,p2,k2,b2,rfl,hS⟩:=hrel
  obtain ⟨A,c,q0,q1,q2,q3,z,hc,hC⟩:=aZX hS.rd
  have hle:=hS.le
  by_cases hgo:j<n∧k2=0
  ·
   obtain ⟨hjn,rfl⟩:=hgo
   have d0:((j:Int)<(n:Int)):=by omega
   obtain ⟨rfl,hp0,hp1,rfl,hL⟩:=hS.good rfl
   have HT:=rText bs hb hlen w0 wr g p2 0 b2 hS.rd hS.below (fun _=>⟨hp0,hp1⟩)
   go_wp2_with (fail)
   refine HT.mono ?_
   rintro e w3 ⟨v,x,p3,k3,b3,rfl,rfl,hI3,hB3,hK3,hs3,_⟩
   have hs4:=hs3 rfl
   clear hs3 HT q0 q1 q2 q3 z hc hC
   have hrow:=Kd.R_keep hS.row hK3 (fun _ h=>h)
   have hsz3:w.heap.size≤w3.heap.size:=Nat.le_trans hS.keep.1 hK3.1
   have hgl3:=hI3.lt
   have hl5:(acc.length+1)*16≤140737488355328:=by have:=hS.len;omega
   obtain ⟨A,c,q0,q1,q2,q3,z,hc,hC⟩:=aZX hI3
   have hLs:n - j=(n - j - 1)+1:=by omega
   rw [hLs] at hL
   unfold aZr at hL
   cases ht:bZh bs p2 with
   | error f =>
    obtain ⟨kk,q⟩:=f
    rw [ht] at hs4 hL
    obtain ⟨rfl,rfl⟩:=hs4
    have h200:=(cZd bs p2 hp0 hp1).1 _ _ ht
    have hk3:(k3 == 0)=false:=by rw [beq_eq_false_iff_ne];omega
    have HL:=hid_ hL
    clear hL ht
    have fin:∀ out2 w5,Kd.string.R 9 w5 w.heap.size (fun k=>k≠g) out2 (acc++[x])→w3.grownBy w5 u5.ownBlock→StLr Kd.string 9 w0 w w5 g bs p 0 b2 n (j+1) F (aZr ByteArray.empty (bZh bs) cmpS) out2 (acc++[x]) p3 k3 b3:=fun out2 w5 hr hg=>by
     obtain ⟨i1,i2,i3⟩:=hS.after hw hK3 hI3 hB3 hg
     exact ⟨by omega,by rw [List.length_append,hS.len];rfl,hr,i1,i2,i3,fun h=>by omega,fun _=>.inl ⟨rfl,HL.out.symm⟩⟩
    by_cases hj:0<j
    ·
     have d1:decide ((0:Int)<(j:Int))=true:=decide_eq_true (by omega)
     have d2:decide (0<j)=true:=decide_eq_true hj
     clear hj
     go_wp2_with (((with_reducible refine aZh (b:=.append) (xs:=#[.tmp 49,.tmp 51]) rfl ?_);at_builtin;refine Kd.R_append Kd.string (w0:=w3) w.heap.size rfl (.tmp 49) (.tmp 51) 22 9 (.string ⟨#[]⟩) 16 rfl Try.underlying22 info9 rfl (by decide) (by omega) u5 acc x [.string x] (fun k=>k≠g) (fun _=>False) rfl rfl rfl (fun _ hk=>hk.elim) (fun k hk=>by omega) hrow (Below.refl _ _) hsz3 hl5 ?_;intro out2 w5 hrow5 hb5 hg5 _))
     go_roundw
     case rel=>exact ⟨j+1,_,p3,k3,b3,by go_num,fin _ _ hrow5 hg5⟩
     case measure=>simp [intOf];omega
    ·
     have d1:decide ((0:Int)<(j:Int))=false:=decide_eq_false (by omega)
     have d2:decide (0<j)=false:=decide_eq_false hj
     clear hj
     go_wp2_with (((with_reducible refine aZh (b:=.append) (xs:=#[.tmp 49,.tmp 51]) rfl ?_);at_builtin;refine Kd.R_append Kd.string (w0:=w3) w.heap.size rfl (.tmp 49) (.tmp 51) 22 9 (.string ⟨#[]⟩) 16 rfl Try.underlying22 info9 rfl (by decide) (by omega) u5 acc x [.string x] (fun k=>k≠g) (fun _=>False) rfl rfl rfl (fun _ hk=>hk.elim) (fun k hk=>by omega) hrow (Below.refl _ _) hsz3 hl5 ?_;intro out2 w5 hrow5 hb5 hg5 _))
     go_roundw
     case rel=>exact ⟨j+1,_,p3,k3,b3,by go_num,fin _ _ hrow5 hg5⟩
     case measure=>simp [intOf];omega
   | ok y =>
    obtain ⟨y,q⟩:=y
    rw [ht] at hs4 hL
    obtain ⟨rfl,rfl,rfl,rfl⟩:=hs4
    have h200:=(cZd bs p2 hp0 hp1).2 _ _ ht
    dsimp only at hL
    have HL:=hid_ hL
    clear hL ht
    have fin:(∀ hh:0<acc.length,¬ 0≤cmpS (acc.getD (acc.length - 1) ByteArray.empty) x)→∀ out2 w5,Kd.string.R 9 w5 w.heap.size (fun k=>k≠g) out2 (acc++[x])→w3.grownBy w5 u5.ownBlock→StLr Kd.string 9 w0 w w5 g bs p 0 b3 n (j+1) F (aZr ByteArray.empty (bZh bs) cmpS) out2 (acc++[x]) p3 0 b3:=fun hh out2 w5 hr hg=>by
     obtain ⟨i1,i2,i3⟩:=hS.after hw hK3 hI3 hB3 hg
     refine ⟨by omega,by rw [List.length_append,hS.len];rfl,hr,i1,i2,i3,fun _=>⟨rfl,by omega,by omega,rfl,?_⟩,fun h=>absurd rfl h⟩
     have:=HL.out
     rw [if_neg (fun h=>hh h.1 h.2)] at this
     rw [show n - (j+1)=n - j - 1 by omega]
     exact this
    by_cases hj:0<j
    ·
     have d1:decide ((0:Int)<(j:Int))=true:=decide_eq_true (by omega)
     have d2:decide (0<j)=true:=decide_eq_true hj
     obtain ⟨Ao,co,hAo,hco,hCo⟩:=Kd.R_reads hrow
     subst hAo
     have hal:=hS.len
     obtain ⟨ad,rfl,hcell⟩:=Kd.at_string hCo ((j - 1:Nat):Int) (by omega) (by omega)
     rw [Int.toNat_natCast,show rdOf ByteArray.empty acc ((j - 1:Nat):Int)=acc.getD (acc.length - 1) ByteArray.empty by unfold rdOf;rw [Int.toNat_natCast,hal]] at hcell
     generalize hy:acc.getD (acc.length - 1) ByteArray.empty=y at hcell
     obtain ⟨i,hij⟩:∃ i:Nat,i=j - 1:=⟨_,rfl⟩
     rw [←hij] at hcell
     have di0:0≤(i:Int):=by omega
     have di1:(i:Int)<(acc.length:Int):=by omega
     have ei:wrap64 ((j:Int) - 1)=(i:Int):=by rw [hij];exact dZe j hj (by omega)
     have ej:(j:Int) - 1=(i:Int):=by omega
     clear hij hal
     cases hcmp:Op.bytesLess y.toList x.toList with
     | true =>
      have hn0:¬ 0≤cmpS y x:=by unfold cmpS;rw [if_pos hcmp];decide
      have fin2:=fin (fun _=>by rw [hy];exact hn0)
      have hf1:Op.bytesLess x.toList y.toList=false:=by
       have:=Go.Proofs.YtbnplhmmbnmagaaX.bl_total x.toList y.toList
       rw [hcmp,Bool.not_true,Bool.or_eq_false_iff] at this
       exact this.1
      have hf2:(x.toList == y.toList)=false:=by
       have:=Go.Proofs.YtbnplhmmbnmagaaX.bl_total x.toList y.toList
       rw [hcmp,Bool.not_true,Bool.or_eq_false_iff] at this
       exact this.2
      have hf3:¬x=y:=fun e=>by rw [e] at hf2;simp at hf2
      clear fin hn0 hj hy HL
      go_wp2_with (((with_reducible refine aZh (b:=.append) (xs:=#[.tmp 49,.tmp 51]) rfl ?_);at_builtin;refine Kd.R_append Kd.string (w0:=w3) w.heap.size rfl (.tmp 49) (.tmp 51) 22 9 (.string ⟨#[]⟩) 16 rfl Try.underlying22 info9 rfl (by decide) (by omega) _ acc x [.string x] (fun k=>k≠g) (fun _=>False) rfl rfl rfl (fun _ hk=>hk.elim) (fun k hk=>by omega) hrow (Below.refl _ _) hsz3 hl5 ?_;intro out2 w5 hrow5 hb5 hg5 _))
      go_roundw
      case rel=>exact ⟨j+1,_,p3,0,b3,by go_num,fin2 _ _ hrow5 hg5⟩
      case measure=>simp [intOf];omega
     | false =>
      have hn0:0≤cmpS y x:=by unfold cmpS;rw [hcmp,if_neg (by decide)];split <;> decide
      have HL2:Hid (F=.error (204,p2)):=by
       have:=HL.out
       rw [hy,if_pos ⟨by have:=hS.len;omega,hn0⟩] at this
       exact hid_ this.symm
      clear fin hn0 hj hy HL
      have htot:=Go.Proofs.YtbnplhmmbnmagaaX.bl_total x.toList y.toList
      rw [hcmp,Bool.not_false] at htot
      cases hf1:Op.bytesLess x.toList y.toList with
      | true =>
       clear htot
       have HFl:=fZN bs w0 w3 g p3 0 b3 204 p2 hI3 hB3
       go_wp2_with (first
        | ((with_reducible refine HFl.mono ?_);rintro e w4 ⟨rfl,hI4,hB4,hK4⟩;(have hrow4:=Kd.R_keep hrow hK4 (fun _ h=>h));(have hsz4:w.heap.size≤w4.heap.size:=Nat.le_trans hsz3 hK4.1);(have hgl4:=Nat.lt_of_lt_of_le hgl3 hK4.1))
        | ((with_reducible refine aZh (b:=.append) (xs:=#[.tmp 49,.tmp 51]) rfl ?_);at_builtin;refine Kd.R_append Kd.string (w0:=w4) w.heap.size rfl (.tmp 49) (.tmp 51) 22 9 (.string ⟨#[]⟩) 16 rfl Try.underlying22 info9 rfl (by decide) (by omega) _ acc x [.string x] (fun k=>k≠g) (fun _=>False) rfl rfl rfl (fun _ hk=>hk.elim) (fun k hk=>by omega) hrow4 (Below.refl _ _) hsz4 hl5 ?_;intro out2 w5 hrow5 hb5 hg5 _))
       rw [if_pos trivial] at hI4
       obtain ⟨i1,i2,i3⟩:=hS.after hw (KeepBut.trans' hK3 hK4) hI4 hB4 hg5
       go_roundw
       case rel=>exact ⟨j+1,_,p3,204,p2,by go_num,by omega,by rw [List.length_append,hS.len];rfl,hrow5,i1,i2,i3,fun h=>absurd h (by decide),fun _=>.inl ⟨rfl,HL2.out⟩⟩
       case measure=>simp [intOf];omega
      | false =>
       have hf2:(x.toList == y.toList)=true:=by rw [hf1,Bool.false_or] at htot;exact htot
       clear htot
       have HFl:=fZN bs w0 w3 g p3 0 b3 204 p2 hI3 hB3
       go_wp2_with (first
        | ((with_reducible refine HFl.mono ?_);rintro e w4 ⟨rfl,hI4,hB4,hK4⟩;(have hrow4:=Kd.R_keep hrow hK4 (fun _ h=>h));(have hsz4:w.heap.size≤w4.heap.size:=Nat.le_trans hsz3 hK4.1);(have hgl4:=Nat.lt_of_lt_of_le hgl3 hK4.1))
        | ((with_reducible refine aZh (b:=.append) (xs:=#[.tmp 49,.tmp 51]) rfl ?_);at_builtin;refine Kd.R_append Kd.string (w0:=w4) w.heap.size rfl (.tmp 49) (.tmp 51) 22 9 (.string ⟨#[]⟩) 16 rfl Try.underlying22 info9 rfl (by decide) (by omega) _ acc x [.string x] (fun k=>k≠g) (fun _=>False) rfl rfl rfl (fun _ hk=>hk.elim) (fun k hk=>by omega) hrow4 (Below.refl _ _) hsz4 hl5 ?_;intro out2 w5 hrow5 hb5 hg5 _))
       rw [if_pos trivial] at hI4
       obtain ⟨i1,i2,i3⟩:=hS.after hw (KeepBut.trans' hK3 hK4) hI4 hB4 hg5
       go_roundw
       case rel=>exact ⟨j+1,_,p3,204,p2,by go_num,by omega,by rw [List.length_append,hS.len];rfl,hrow5,i1,i2,i3,fun h=>absurd h (by decide),fun _=>.inl ⟨rfl,HL2.out⟩⟩
       case measure=>simp [intOf];omega
    ·
     have d1:decide ((0:Int)<(j:Int))=false:=decide_eq_false (by omega)
     have d2:decide (0<j)=false:=decide_eq_false hj
     have hal:=hS.len
     have fin2:=fin (fun hh=>absurd (show 0<j by omega) hj)
     clear hj hal fin
     go_wp2_with (((with_reducible refine aZh (b:=.append) (xs:=#[.tmp 49,.tmp 51]) rfl ?_);at_builtin;refine Kd.R_append Kd.string (w0:=w3) w.heap.size rfl (.tmp 49) (.tmp 51) 22 9 (.string ⟨#[]⟩) 16 rfl Try.underlying22 info9 rfl (by decide) (by omega) u5 acc x [.string x] (fun k=>k≠g) (fun _=>False) rfl rfl rfl (fun _ hk=>hk.elim) (fun k hk=>by omega) hrow (Below.refl _ _) hsz3 hl5 ?_;intro out2 w5 hrow5 hb5 hg5 _))
     go_roundw
     case rel=>exact ⟨j+1,_,p3,0,b3,by go_num,fin2 _ _ hrow5 hg5⟩
     case measure=>simp [intOf];omega
  ·
   have hout : Stk p k b F acc p2 k2 b2 := ⟨fun hk => (by
    by_cases hk2:k2=0
    ·
     obtain ⟨_,_,_,e,hL⟩:=hS.good hk2
     have hj : j = n := (by
      by_cases hjn:j<n
      · exact absurd ⟨hjn,hk2⟩ hgo
      · omega)
     rw [hj,Nat.sub_self] at hL
     rw [←hL]
     exact ⟨rfl,rfl,hk2,e⟩
    ·
     rcases hS.bad hk2 with ⟨_,e⟩ | ⟨e,_⟩
     · rw [e];exact ⟨rfl,rfl⟩
     ·
      exact absurd hk e), fun hk => (by
    by_cases hk2:k2=0
    · exact absurd (hS.good hk2).1 hk
    ·
     rcases hS.bad hk2 with ⟨e,_⟩ | ⟨_,e⟩
     · exact absurd e hk
     · exact e)⟩
   by_cases hjn:(j:Int)<(n:Int)
   ·
    have hk2:(k2 == 0)=false:=by rw [beq_eq_false_iff_ne];intro e;exact hgo ⟨by omega,e⟩
    go_wp2_with (fail)
    go_ret
    exact ⟨_,acc,p2,k2,b2,rfl,⟨Kd.R_mono hS.row (fun _ _=>trivial),by rw [hS.len];exact hS.le⟩,hS.rd,hS.below,hS.keep,by rw [HF.out];exact hout⟩
   ·
    go_wp2_with (fail)
    go_ret
    exact ⟨_,acc,p2,k2,b2,rfl,⟨Kd.R_mono hS.row (fun _ _=>trivial),by rw [hS.len];exact hS.le⟩,hS.rd,hS.below,hS.keep,by rw [HF.out];exact hout⟩
theorem rTexts (bs:List Int) (hb:bZ9 bs) (hlen:bs.length≤200000000000000) (w0 w:World) (g:Nat) (p k b:Int) (hI:IsS136 w0 w g bs p k b) (hB:Below w0.heap.size w0 w) (h:k=0→0≤p∧p≤bs.length) (n:Nat) (hn:n≤5000) :
 Calls Try.prog 62 #[.pointer (some ⟨g,0,none⟩),.int .i64 n] w (eZZ w0 w g bs p k b (aZr ByteArray.empty (bZh bs) cmpS n p []) (fun x v w'=>Kd.string.R 9 w' w.heap.size (fun _=>True) v x)):=by
 refine (rTextsN bs hb hlen w0 w g p k b hI hB h n hn).mono ?_
 rintro e w' ⟨v,x,p2,k2,b2,rfl,hv,hr⟩
 exact ⟨v,x,p2,k2,b2,rfl,hv.1,hr⟩
set_option linter.unusedSectionVars false
def setX (W:World) (X:Nat) (a b c d:Value):World:=(((W.setCell ⟨X,0,none⟩ a).setCell ⟨X,1,none⟩ b).setCell ⟨X,2,none⟩ c).setCell ⟨X,3,none⟩ d
structure StX (w0 w W:World) (g:Nat) (bs:List Int) (p k b op n1 n2 n3:Int):Prop where
  rd:IsS136 w0 W g bs p k b
  below:Below w0.heap.size w0 W
  keep:KeepBut w W g none
  z:W.heap[w.heap.size]?=some (.cells #[.int .i64 0,.int .i64 0,.int .i64 0,.int .i64 0] 66 (0,0))
  x:W.heap[w.heap.size+1]?=some (.cells #[.int .i64 op,.int .i64 n1,.int .i64 n2,.int .i64 n3] 66 (0,0))
theorem dZk {w W:World} {g:Nat} (h:KeepBut w W g none) {a:Addr} (ha:w.heap.size≤a.block∨a.block=g) (u:Value):KeepBut w (W.setCell a u) g none :=
  ⟨by have:=h.1;simpa using this,fun k hk h1 h2=>(Below.heap_setCell _ _ _ _ (by rcases ha with h|h <;> omega)).trans (h.2 k hk h1 h2)⟩
section
variable {w0 w W W2:World} {g:Nat} {bs:List Int} {p k b op n1 n2 n3:Int}
theorem StX.call (h:StX w0 w W g bs p k b op n1 n2 n3) (hgl:g<w.heap.size) {p2 k2 b2:Int} (hI:IsS136 w0 W2 g bs p2 k2 b2) (hB:Below w0.heap.size w0 W2) (hK:KeepBut W W2 g none):StX w0 w W2 g bs p2 k2 b2 op n1 n2 n3 :=
  ⟨hI,hB,KeepBut.trans' h.keep hK,(hK.2 _ (aZd h.z) (by omega) (by simp)).trans h.z,(hK.2 _ (aZd h.x) (by omega) (by simp)).trans h.x⟩
theorem StX.drewN (h:StX w0 w W g bs p k b op n1 n2 n3) (n:Nat):StX w0 w (W.drewN n) g bs p k b op n1 n2 n3:=⟨h.rd.drewN n,aZb h.below n,h.keep,h.z,h.x⟩
theorem StX.drew (h:StX w0 w W g bs p k b op n1 n2 n3):StX w0 w W.drew g bs p k b op n1 n2 n3:=⟨h.rd.drew,h.below.drew,h.keep,h.z,h.x⟩
theorem StX.at_ (h:StX w0 w W g bs p k b op n1 n2 n3) (hgl:g<w.heap.size) (q:Int):StX w0 w (W.setCell ⟨g,1,none⟩ (.int .i64 q)) g bs q k b op n1 n2 n3 :=
  ⟨h.rd.set_1 q,h.below.setCell (show w0.heap.size≤g from h.rd.ge) _,dZk h.keep (.inr rfl) _,(Below.heap_setCell _ _ _ _ (by show w.heap.size≠g;omega)).trans h.z,(Below.heap_setCell _ _ _ _ (by show w.heap.size+1≠g;omega)).trans h.x⟩
theorem StX.setx (h:StX w0 w W g bs p k b op n1 n2 n3) (hw:w0.heap.size≤w.heap.size) (hgl:g<w.heap.size) (j:Nat) (v op2 m1 m2 m3:Int) (hj:((#[.int .i64 op,.int .i64 n1,.int .i64 n2,.int .i64 n3]:Array Value).set! j (.int .i64 v))=#[.int .i64 op2,.int .i64 m1,.int .i64 m2,.int .i64 m3]):StX w0 w (W.setCell ⟨w.heap.size+1,j,none⟩ (.int .i64 v)) g bs p k b op2 m1 m2 m3 :=
  ⟨h.rd.far (by show g ≠ w.heap.size + 1; omega) _, h.below.setCell (show w0.heap.size ≤ w.heap.size + 1 by omega) _, dZk h.keep (.inl (show w.heap.size ≤ w.heap.size + 1 by omega)) _, (Below.heap_setCell _ _ _ _ (by show w.heap.size ≠ w.heap.size + 1; omega)).trans h.z, by
    rw [←hj]
    simp [World.setCell,h.x,Array.getElem?_modify]⟩
theorem StX.done (h:StX w0 w W g bs p k b op n1 n2 n3) (hw:w0.heap.size≤w.heap.size) (hgl:g<w.heap.size) (a c d e:Value) :
 IsS136 w0 (setX W w.heap.size a c d e) g bs p k b∧Below w0.heap.size w0 (setX W w.heap.size a c d e)∧KeepBut w (setX W w.heap.size a c d e) g none∧(setX W w.heap.size a c d e).heap[w.heap.size]?=some (.cells #[a,c,d,e] 66 (0,0)):=by
 have hne:g≠w.heap.size:=by omega
 unfold setX
 refine ⟨(((h.rd.far hne _).far hne _).far hne _).far hne _,(((h.below.setCell (show w0.heap.size≤w.heap.size from hw) _).setCell (show w0.heap.size≤w.heap.size from hw) _).setCell (show w0.heap.size≤w.heap.size from hw) _).setCell (show w0.heap.size≤w.heap.size from hw) _,?_,?_⟩
 · exact dZk (dZk (dZk (dZk h.keep (.inl (Nat.le_refl _)) _) (.inl (Nat.le_refl _)) _) (.inl (Nat.le_refl _)) _) (.inl (Nat.le_refl _)) _
 · simp [World.setCell,h.z,Array.getElem?_modify]
theorem StX.facts (h:StX w0 w W g bs p k b op n1 n2 n3):W.cell? ⟨w.heap.size+1,0,none⟩=some (.int .i64 op)∧W.cell? ⟨w.heap.size+1,1,none⟩=some (.int .i64 n1)∧W.cell? ⟨w.heap.size+1,2,none⟩=some (.int .i64 n2)∧W.cell? ⟨w.heap.size+1,3,none⟩=some (.int .i64 n3)∧(∀ i,W.frozen? ⟨w.heap.size+1,i,none⟩=false)∧(∀ i,W.frozen? ⟨w.heap.size,i,none⟩=false)∧W.cell? ⟨w.heap.size,0,none⟩=some (.int .i64 0)∧W.cell? ⟨w.heap.size,1,none⟩=some (.int .i64 0)∧W.cell? ⟨w.heap.size,2,none⟩=some (.int .i64 0)∧W.cell? ⟨w.heap.size,3,none⟩=some (.int .i64 0) :=
  ⟨by simp [World.cell?,h.x],by simp [World.cell?,h.x],by simp [World.cell?,h.x],by simp [World.cell?,h.x],fun i=>by simp [World.frozen?,h.x],fun i=>by simp [World.frozen?,h.z],by simp [World.cell?,h.z],by simp [World.cell?,h.z],by simp [World.cell?,h.z],by simp [World.cell?,h.z]⟩
end
theorem bZb {bs:List Int} {F:Except (Int × Int) (S66 × Int)} {p k b b0 x p2 k2 b2:Int} {G:Int→Int→Except (Int × Int) (S66 × Int)} (h0:k=0→0≤p∧p≤bs.length∧b=b0∧(match aZn bs p 0 65535 with | .error f=>.error f | .ok (a,q)=>G a q)=F) (h1:k≠0→F=.error (k,b)) (hs:Stk p k b (aZn bs p 0 65535) x p2 k2 b2) :
 (k2=0→0≤p2∧p2≤bs.length∧b2=b0∧G x p2=F)∧(k2≠0→F=.error (k2,b2)):=by
 by_cases hk:k=0
 ·
  obtain ⟨hp0,hp1,hb,hL⟩:=h0 hk
  have h2:=hs.1 hk
  cases hc:aZn bs p 0 65535 with
  | error f =>
   obtain ⟨kk,q⟩:=f
   rw [hc] at h2 hL
   obtain ⟨rfl,rfl⟩:=h2
   have:=(aZu bs 0 65535 p hp0 hp1).1 _ _ hc
   exact ⟨fun h=>by omega,fun _=>hL.symm⟩
  | ok y =>
   obtain ⟨y,q⟩:=y
   rw [hc] at h2 hL
   obtain ⟨rfl,rfl,rfl,rfl⟩:=h2
   have:=aZs hc
   exact ⟨fun _=>⟨by omega,by omega,hb,hL⟩,fun h=>absurd rfl h⟩
 ·
  obtain ⟨rfl,rfl,rfl⟩:=hs.2 hk
  exact ⟨fun h=>absurd h hk,fun _=>h1 hk⟩
theorem rInstr (bs:List Int) (hb:bZ9 bs) (hlen:bs.length≤200000000000000) (w0 w:World) (g:Nat) (p k b:Int) (hI:IsS136 w0 w g bs p k b) (hB:Below w0.heap.size w0 w) (h:k=0→0≤p∧p≤bs.length) :
 Calls Try.prog 65 #[.pointer (some ⟨g,0,none⟩)] w (eZZ w0 w g bs p k b (aZ7 bs p) (fun x v _=>v=.agg #[.int .i64 x.f0,.int .i64 x.f1,.int .i64 x.f2,.int .i64 x.f3])):=by
 have hgl:=hI.lt
 have hw:=hB.size
 have hS:StX w0 w ((w.alloc (.cells #[.int .i64 0,.int .i64 0,.int .i64 0,.int .i64 0] 66)).alloc (.cells #[.int .i64 0,.int .i64 0,.int .i64 0,.int .i64 0] 66)) g bs p k b 0 0 0 0:=by
  refine ⟨(hI.alloc _).alloc _,aZa (aZa hB _) _,⟨by simp;omega,fun j hj _ _=>?_⟩,?_,?_⟩
  · rw [heap_alloc_old _ _ (by simp;omega),heap_alloc_old _ _ hj]
  · rw [heap_alloc_old _ _ (by simp)];exact heap_alloc_new w _
  ·
   have:=heap_alloc_new (w.alloc (.cells #[.int .i64 0,.int .i64 0,.int .i64 0,.int .i64 0] 66)) (.cells #[.int .i64 0,.int .i64 0,.int .i64 0,.int .i64 0] 66)
   simpa using this
 clear hI hB
 obtain ⟨A,c,q0,q1,q2,q3,qz,hc,hC⟩:=aZX hS.rd
 by_cases hk:k=0
 ·
  subst hk
  obtain ⟨hp0,hp1⟩:=h rfl
  go_enter Try.func65,Try.ntmps65
  go_wp2_with (fail)
  generalize ((w.alloc (.cells #[.int .i64 0,.int .i64 0,.int .i64 0,.int .i64 0] 66)).alloc (.cells #[.int .i64 0,.int .i64 0,.int .i64 0,.int .i64 0] 66))=W0 at hS q0 q1 q2 q3 qz ⊢
  have hSd:=hS.drew
  by_cases hge:(bs.length:Int)≤p
  ·
   have e1:aZ7 bs p=.error (201,bs.length):=by unfold aZ7;rw [if_pos hge]
   have HF:=fZN bs w0 W0.drew g p 0 b 201 bs.length hSd.rd hSd.below
   clear q2 q3 qz
   go_region
   go_wp2_with ((with_reducible refine HF.mono ?_);rintro e w2 ⟨rfl,hI2,hB2,hK2⟩;rw [if_pos trivial] at hI2;(have hS2:=hSd.call hgl hI2 hB2 hK2);obtain ⟨y0,y1,y2,y3,yz,zy,v0,v1,v2,v3⟩:=hS2.facts)
   obtain ⟨d1,d2,d3,d4⟩:=hS2.done hw hgl (.int .i64 0) (.int .i64 0) (.int .i64 0) (.int .i64 0)
   refine bodyPost_ret (results_cell_row rfl _ _ w.heap.size _ _ _ _ rfl d4 Try.underlying66 rfl rfl) rfl ?_
   exact ⟨_,⟨0,0,0,0⟩,p,201,bs.length,rfl,rfl,d1,d2,d3,(fun _=>by rw [e1];exact RefOut.err),fun h=>absurd rfl h⟩
  ·
   obtain ⟨ad,rfl,hcell⟩:=Kd.at_int (Kd.C_below hC hS.below) p hp0 (by omega)
   rw [show rd bs p=bs.getD p.toNat 0 from rfl] at hcell
   have hcb:0≤bs.getD p.toNat 0∧bs.getD p.toNat 0≤255:=by
    rw [List.getD_eq_getElem?_getD,List.getElem?_eq_getElem (show p.toNat<bs.length by omega)]
    exact hb _ (List.getElem_mem _)
   have hiF:aZ7 bs p=if bs.getD p.toNat 0<1∨36<bs.getD p.toNat 0 then .error (203,p) else aZK bs (bZG (bs.getD p.toNat 0)) (bs.getD p.toNat 0) 0 0 0 0 (p+1):=by unfold aZ7;rw [if_neg hge]
   have hplt:p<(bs.length:Int):=by omega
   have hC0:bs.length≤c:=hc
   generalize bs.getD p.toNat 0=op at hcell hcb hiF
   have HIF:=hid_ hiF
   clear hiF q2 q3
   go_region
   go_wp2_with (fail)
   go_region
   have hS2:=hS.drew.drew
   by_cases hop:op<1∨36<op
   ·
    have e1:aZ7 bs p=.error (203,p):=by rw [HIF.out,if_pos hop]
    have HF:=fZN bs w0 W0.drew.drew g p 0 b 203 p hS2.rd hS2.below
    have hopA:op<1∨(¬op<1∧36<op):=by omega
    clear hcell hop
    rcases hopA with hopA | ⟨hopA,hopB⟩
    ·
     go_wp2_with ((with_reducible refine HF.mono ?_);rintro e w2 ⟨rfl,hI2,hB2,hK2⟩;rw [if_pos trivial] at hI2;(have hS3:=hS2.call hgl hI2 hB2 hK2);obtain ⟨y0,y1,y2,y3,yz,zy,v0,v1,v2,v3⟩:=hS3.facts)
     obtain ⟨d1,d2,d3,d4⟩:=hS3.done hw hgl (.int .i64 0) (.int .i64 0) (.int .i64 0) (.int .i64 0)
     refine bodyPost_ret (results_cell_row rfl _ _ w.heap.size _ _ _ _ rfl d4 Try.underlying66 rfl rfl) rfl ?_
     exact ⟨_,⟨0,0,0,0⟩,p,203,p,rfl,rfl,d1,d2,d3,(fun _=>by rw [e1];exact RefOut.err),fun h=>absurd rfl h⟩
    ·
     go_wp2_with ((with_reducible refine HF.mono ?_);rintro e w2 ⟨rfl,hI2,hB2,hK2⟩;rw [if_pos trivial] at hI2;(have hS3:=hS2.call hgl hI2 hB2 hK2);obtain ⟨y0,y1,y2,y3,yz,zy,v0,v1,v2,v3⟩:=hS3.facts)
     obtain ⟨d1,d2,d3,d4⟩:=hS3.done hw hgl (.int .i64 0) (.int .i64 0) (.int .i64 0) (.int .i64 0)
     refine bodyPost_ret (results_cell_row rfl _ _ w.heap.size _ _ _ _ rfl d4 Try.underlying66 rfl rfl) rfl ?_
     exact ⟨_,⟨0,0,0,0⟩,p,203,p,rfl,rfl,d1,d2,d3,(fun _=>by rw [e1];exact RefOut.err),fun h=>absurd rfl h⟩
   ·
    have hS3:=hS.at_ hgl (p+1)
    obtain ⟨x0,x1,x2,x3,xz,zz,z0,z1,z2,z3⟩:=hS3.facts
    have hS4:=(hS3.setx hw hgl 0 op op 0 0 0 rfl).drew.drew
    have hop1:¬op<1:=by omega
    have hop2:¬ 36<op:=by omega
    have wp:wrap64 (p+1)=p+1:=bZT _ (by omega) (by omega)
    have hu:=hid_ (show aZ7 bs p=aZK bs (bZG op) op 0 0 0 0 (p+1) by rw [HIF.out,if_neg hop])
    clear hcell z0 z1 z2 z3 zz x1 x2 x3 HIF hS2 hSd hS3
    go_wp2_with (fail)
    refine (uses_any _ op (by omega) (by omega)).mono ?_
    rintro e w3 ⟨rfl,⟨nd,rfl⟩⟩
    have hS5:=hS4.drewN nd
    clear hS4 hS x0 xz q0 q1 qz
    generalize World.drewN _ nd=W5 at hS5 ⊢
    have hL0:=hu.out.symm
    have hpa:0≤p+1:=by omega
    have hpb:p+1≤(bs.length:Int):=by omega
    generalize hFF:aZ7 bs p=F at hL0
    have HFF:=hid_ hFF
    clear hFF hu hcb hop hop1 hop2 wp
    generalize bZG op=u at hL0 ⊢
    obtain ⟨u1,u2,u3⟩:=u
    dsimp only
    have HL0:=hid_ hL0
    clear hL0
    cases u1 with
    | false =>
     cases u2 with
     | false =>
      cases u3 with
      | false =>
       obtain ⟨y0,y1,y2,y3,yz,zy,v0,v1,v2,v3⟩:=hS5.facts
       go_wp2_with (fail)
       obtain ⟨d1,d2,d3,d4⟩:=hS5.done hw hgl (.int .i64 op) (.int .i64 0) (.int .i64 0) (.int .i64 0)
       refine bodyPost_ret (results_cell_row rfl _ _ w.heap.size _ _ _ _ rfl d4 Try.underlying66 rfl rfl) rfl ?_
       refine ⟨_,⟨op,0,0,0⟩,(p+1),0,b,rfl,rfl,d1,d2,d3,(fun _=>?_),fun h=>absurd rfl h⟩
       rw [HFF.out]
       rw [show F=.ok (⟨op,0,0,0⟩,p+1) from HL0.out.symm]
       exact RefOut.ok
      | true =>
       obtain ⟨y0,y1,y2,y3,yz,zy,v0,v1,v2,v3⟩:=hS5.facts
       clear y0 y1 y2 y3 v0 v1 v2 v3
       go_wp2_with (fail)
       refine (cZy bs hb hlen w0 W5 g (p+1) 0 b hS5.rd hS5.below (fun _=>⟨hpa,hpb⟩) 0 65535).mono ?_
       rintro e w6 ⟨vv,m3,p6,k6,b6,rfl,rfl,hI6,hB6,hK6,hs6⟩
       obtain ⟨tgo1,tbo1⟩:=bZb (G:=fun a q=>aZK bs (false,false,true) op 3 0 0 a q) (F:=F) (b0:=b) (fun _=>⟨hpa,hpb,rfl,HL0.out⟩) (fun h=>absurd rfl h) hs6
       have tg1:=hid_ tgo1
       have tb1:=hid_ tbo1
       clear tgo1 tbo1
       have hC1:=(hS5.call hgl hI6 hB6 hK6)
       clear yz zy
       obtain ⟨y0,y1,y2,y3,yz1,zy1,v0,v1,v2,v3⟩:=hC1.facts
       have hX1:=hC1.setx hw hgl 3 m3 op 0 0 m3 rfl
       clear y0 y1 y2 v0 v1 v2 v3
       obtain ⟨g0,g1,g2,g3,gz,gy,r0,r1,r2,r3⟩:=hX1.facts
       go_wp2_with (fail)
       obtain ⟨d1,d2,d3,d4⟩:=hX1.done hw hgl (.int .i64 op) (.int .i64 0) (.int .i64 0) (.int .i64 m3)
       refine bodyPost_ret (results_cell_row rfl _ _ w.heap.size _ _ _ _ rfl d4 Try.underlying66 rfl rfl) rfl ?_
       refine ⟨_,⟨op,0,0,m3⟩,p6,k6,b6,rfl,rfl,d1,d2,d3,(fun _=>?_),fun h=>absurd rfl h⟩
       rw [HFF.out]
       by_cases hkk:(k6:Int)=0
       ·
        obtain ⟨_,_,e1,e2⟩:=tg1.out hkk
        rw [←e2]
        exact ⟨rfl,rfl,hkk,e1⟩
       ·
        rw [tb1.out hkk]
        exact ⟨rfl,rfl⟩
     | true =>
      cases u3 with
      | false =>
       obtain ⟨y0,y1,y2,y3,yz,zy,v0,v1,v2,v3⟩:=hS5.facts
       clear y0 y1 y2 y3 v0 v1 v2 v3
       go_wp2_with (fail)
       refine (cZy bs hb hlen w0 W5 g (p+1) 0 b hS5.rd hS5.below (fun _=>⟨hpa,hpb⟩) 0 65535).mono ?_
       rintro e w6 ⟨vv,m2,p6,k6,b6,rfl,rfl,hI6,hB6,hK6,hs6⟩
       obtain ⟨tgo1,tbo1⟩:=bZb (G:=fun a q=>aZK bs (false,true,false) op 2 0 a 0 q) (F:=F) (b0:=b) (fun _=>⟨hpa,hpb,rfl,HL0.out⟩) (fun h=>absurd rfl h) hs6
       have tg1:=hid_ tgo1
       have tb1:=hid_ tbo1
       clear tgo1 tbo1
       have hC1:=(hS5.call hgl hI6 hB6 hK6)
       clear yz zy
       obtain ⟨y0,y1,y2,y3,yz1,zy1,v0,v1,v2,v3⟩:=hC1.facts
       have hX1:=hC1.setx hw hgl 2 m2 op 0 m2 0 rfl
       clear y0 y1 y3 v0 v1 v2 v3
       obtain ⟨g0,g1,g2,g3,gz,gy,r0,r1,r2,r3⟩:=hX1.facts
       go_wp2_with (fail)
       obtain ⟨d1,d2,d3,d4⟩:=hX1.done hw hgl (.int .i64 op) (.int .i64 0) (.int .i64 m2) (.int .i64 0)
       refine bodyPost_ret (results_cell_row rfl _ _ w.heap.size _ _ _ _ rfl d4 Try.underlying66 rfl rfl) rfl ?_
       refine ⟨_,⟨op,0,m2,0⟩,p6,k6,b6,rfl,rfl,d1,d2,d3,(fun _=>?_),fun h=>absurd rfl h⟩
       rw [HFF.out]
       by_cases hkk:(k6:Int)=0
       ·
        obtain ⟨_,_,e1,e2⟩:=tg1.out hkk
        rw [←e2]
        exact ⟨rfl,rfl,hkk,e1⟩
       ·
        rw [tb1.out hkk]
        exact ⟨rfl,rfl⟩
      | true =>
       obtain ⟨y0,y1,y2,y3,yz,zy,v0,v1,v2,v3⟩:=hS5.facts
       clear y0 y1 y2 y3 v0 v1 v2 v3
       go_wp2_with (fail)
       refine (cZy bs hb hlen w0 W5 g (p+1) 0 b hS5.rd hS5.below (fun _=>⟨hpa,hpb⟩) 0 65535).mono ?_
       rintro e w6 ⟨vv,m2,p6,k6,b6,rfl,rfl,hI6,hB6,hK6,hs6⟩
       obtain ⟨tgo1,tbo1⟩:=bZb (G:=fun a q=>aZK bs (false,true,true) op 2 0 a 0 q) (F:=F) (b0:=b) (fun _=>⟨hpa,hpb,rfl,HL0.out⟩) (fun h=>absurd rfl h) hs6
       have tg1:=hid_ tgo1
       have tb1:=hid_ tbo1
       clear tgo1 tbo1
       have hC1:=(hS5.call hgl hI6 hB6 hK6)
       clear yz zy
       obtain ⟨y0,y1,y2,y3,yz1,zy1,v0,v1,v2,v3⟩:=hC1.facts
       have hX1:=hC1.setx hw hgl 2 m2 op 0 m2 0 rfl
       clear y0 y1 y3 v0 v1 v2 v3
       go_wp2_with (fail)
       refine (cZy bs hb hlen w0 (w6.setCell ⟨w.heap.size+1,2,none⟩ (.int .i64 m2)) g p6 k6 b6 hX1.rd hX1.below (fun hk=>⟨(tg1.out hk).1,(tg1.out hk).2.1⟩) 0 65535).mono ?_
       rintro e w7 ⟨vv,m3,p7,k7,b7,rfl,rfl,hI7,hB7,hK7,hs7⟩
       obtain ⟨tgo2,tbo2⟩:=bZb (G:=fun a q=>aZK bs (false,true,true) op 3 0 m2 a q) (F:=F) (b0:=b) (tg1.out) (tb1.out) hs7
       have tg2:=hid_ tgo2
       have tb2:=hid_ tbo2
       clear tgo2 tbo2
       have hC2:=(hX1.call hgl hI7 hB7 hK7)
       clear y2 yz1 zy1
       obtain ⟨y0,y1,y2,y3,yz2,zy2,v0,v1,v2,v3⟩:=hC2.facts
       have hX2:=hC2.setx hw hgl 3 m3 op 0 m2 m3 rfl
       clear y0 y1 y2 v0 v1 v2 v3
       obtain ⟨g0,g1,g2,g3,gz,gy,r0,r1,r2,r3⟩:=hX2.facts
       go_wp2_with (fail)
       obtain ⟨d1,d2,d3,d4⟩:=hX2.done hw hgl (.int .i64 op) (.int .i64 0) (.int .i64 m2) (.int .i64 m3)
       refine bodyPost_ret (results_cell_row rfl _ _ w.heap.size _ _ _ _ rfl d4 Try.underlying66 rfl rfl) rfl ?_
       refine ⟨_,⟨op,0,m2,m3⟩,p7,k7,b7,rfl,rfl,d1,d2,d3,(fun _=>?_),fun h=>absurd rfl h⟩
       rw [HFF.out]
       by_cases hkk:(k7:Int)=0
       ·
        obtain ⟨_,_,e1,e2⟩:=tg2.out hkk
        rw [←e2]
        exact ⟨rfl,rfl,hkk,e1⟩
       ·
        rw [tb2.out hkk]
        exact ⟨rfl,rfl⟩
    | true =>
     cases u2 with
     | false =>
      cases u3 with
      | false =>
       obtain ⟨y0,y1,y2,y3,yz,zy,v0,v1,v2,v3⟩:=hS5.facts
       clear y0 y1 y2 y3 v0 v1 v2 v3
       go_wp2_with (fail)
       refine (cZy bs hb hlen w0 W5 g (p+1) 0 b hS5.rd hS5.below (fun _=>⟨hpa,hpb⟩) 0 65535).mono ?_
       rintro e w6 ⟨vv,m1,p6,k6,b6,rfl,rfl,hI6,hB6,hK6,hs6⟩
       obtain ⟨tgo1,tbo1⟩:=bZb (G:=fun a q=>aZK bs (true,false,false) op 1 a 0 0 q) (F:=F) (b0:=b) (fun _=>⟨hpa,hpb,rfl,HL0.out⟩) (fun h=>absurd rfl h) hs6
       have tg1:=hid_ tgo1
       have tb1:=hid_ tbo1
       clear tgo1 tbo1
       have hC1:=(hS5.call hgl hI6 hB6 hK6)
       clear yz zy
       obtain ⟨y0,y1,y2,y3,yz1,zy1,v0,v1,v2,v3⟩:=hC1.facts
       have hX1:=hC1.setx hw hgl 1 m1 op m1 0 0 rfl
       clear y0 y2 y3 v0 v1 v2 v3
       obtain ⟨g0,g1,g2,g3,gz,gy,r0,r1,r2,r3⟩:=hX1.facts
       go_wp2_with (fail)
       obtain ⟨d1,d2,d3,d4⟩:=hX1.done hw hgl (.int .i64 op) (.int .i64 m1) (.int .i64 0) (.int .i64 0)
       refine bodyPost_ret (results_cell_row rfl _ _ w.heap.size _ _ _ _ rfl d4 Try.underlying66 rfl rfl) rfl ?_
       refine ⟨_,⟨op,m1,0,0⟩,p6,k6,b6,rfl,rfl,d1,d2,d3,(fun _=>?_),fun h=>absurd rfl h⟩
       rw [HFF.out]
       by_cases hkk:(k6:Int)=0
       ·
        obtain ⟨_,_,e1,e2⟩:=tg1.out hkk
        rw [←e2]
        exact ⟨rfl,rfl,hkk,e1⟩
       ·
        rw [tb1.out hkk]
        exact ⟨rfl,rfl⟩
      | true =>
       obtain ⟨y0,y1,y2,y3,yz,zy,v0,v1,v2,v3⟩:=hS5.facts
       clear y0 y1 y2 y3 v0 v1 v2 v3
       go_wp2_with (fail)
       refine (cZy bs hb hlen w0 W5 g (p+1) 0 b hS5.rd hS5.below (fun _=>⟨hpa,hpb⟩) 0 65535).mono ?_
       rintro e w6 ⟨vv,m1,p6,k6,b6,rfl,rfl,hI6,hB6,hK6,hs6⟩
       obtain ⟨tgo1,tbo1⟩:=bZb (G:=fun a q=>aZK bs (true,false,true) op 1 a 0 0 q) (F:=F) (b0:=b) (fun _=>⟨hpa,hpb,rfl,HL0.out⟩) (fun h=>absurd rfl h) hs6
       have tg1:=hid_ tgo1
       have tb1:=hid_ tbo1
       clear tgo1 tbo1
       have hC1:=(hS5.call hgl hI6 hB6 hK6)
       clear yz zy
       obtain ⟨y0,y1,y2,y3,yz1,zy1,v0,v1,v2,v3⟩:=hC1.facts
       have hX1:=hC1.setx hw hgl 1 m1 op m1 0 0 rfl
       clear y0 y2 y3 v0 v1 v2 v3
       go_wp2_with (fail)
       refine (cZy bs hb hlen w0 (w6.setCell ⟨w.heap.size+1,1,none⟩ (.int .i64 m1)) g p6 k6 b6 hX1.rd hX1.below (fun hk=>⟨(tg1.out hk).1,(tg1.out hk).2.1⟩) 0 65535).mono ?_
       rintro e w7 ⟨vv,m3,p7,k7,b7,rfl,rfl,hI7,hB7,hK7,hs7⟩
       obtain ⟨tgo2,tbo2⟩:=bZb (G:=fun a q=>aZK bs (true,false,true) op 3 m1 0 a q) (F:=F) (b0:=b) (tg1.out) (tb1.out) hs7
       have tg2:=hid_ tgo2
       have tb2:=hid_ tbo2
       clear tgo2 tbo2
       have hC2:=(hX1.call hgl hI7 hB7 hK7)
       clear y1 yz1 zy1
       obtain ⟨y0,y1,y2,y3,yz2,zy2,v0,v1,v2,v3⟩:=hC2.facts
       have hX2:=hC2.setx hw hgl 3 m3 op m1 0 m3 rfl
       clear y0 y1 y2 v0 v1 v2 v3
       obtain ⟨g0,g1,g2,g3,gz,gy,r0,r1,r2,r3⟩:=hX2.facts
       go_wp2_with (fail)
       obtain ⟨d1,d2,d3,d4⟩:=hX2.done hw hgl (.int .i64 op) (.int .i64 m1) (.int .i64 0) (.int .i64 m3)
       refine bodyPost_ret (results_cell_row rfl _ _ w.heap.size _ _ _ _ rfl d4 Try.underlying66 rfl rfl) rfl ?_
       refine ⟨_,⟨op,m1,0,m3⟩,p7,k7,b7,rfl,rfl,d1,d2,d3,(fun _=>?_),fun h=>absurd rfl h⟩
       rw [HFF.out]
       by_cases hkk:(k7:Int)=0
       ·
        obtain ⟨_,_,e1,e2⟩:=tg2.out hkk
        rw [←e2]
        exact ⟨rfl,rfl,hkk,e1⟩
       ·
        rw [tb2.out hkk]
        exact ⟨rfl,rfl⟩
     | true =>
      cases u3 with
      | false =>
       obtain ⟨y0,y1,y2,y3,yz,zy,v0,v1,v2,v3⟩:=hS5.facts
       clear y0 y1 y2 y3 v0 v1 v2 v3
       go_wp2_with (fail)
       refine (cZy bs hb hlen w0 W5 g (p+1) 0 b hS5.rd hS5.below (fun _=>⟨hpa,hpb⟩) 0 65535).mono ?_
       rintro e w6 ⟨vv,m1,p6,k6,b6,rfl,rfl,hI6,hB6,hK6,hs6⟩
       obtain ⟨tgo1,tbo1⟩:=bZb (G:=fun a q=>aZK bs (true,true,false) op 1 a 0 0 q) (F:=F) (b0:=b) (fun _=>⟨hpa,hpb,rfl,HL0.out⟩) (fun h=>absurd rfl h) hs6
       have tg1:=hid_ tgo1
       have tb1:=hid_ tbo1
       clear tgo1 tbo1
       have hC1:=(hS5.call hgl hI6 hB6 hK6)
       clear yz zy
       obtain ⟨y0,y1,y2,y3,yz1,zy1,v0,v1,v2,v3⟩:=hC1.facts
       have hX1:=hC1.setx hw hgl 1 m1 op m1 0 0 rfl
       clear y0 y2 y3 v0 v1 v2 v3
       go_wp2_with (fail)
       refine (cZy bs hb hlen w0 (w6.setCell ⟨w.heap.size+1,1,none⟩ (.int .i64 m1)) g p6 k6 b6 hX1.rd hX1.below (fun hk=>⟨(tg1.out hk).1,(tg1.out hk).2.1⟩) 0 65535).mono ?_
       rintro e w7 ⟨vv,m2,p7,k7,b7,rfl,rfl,hI7,hB7,hK7,hs7⟩
       obtain ⟨tgo2,tbo2⟩:=bZb (G:=fun a q=>aZK bs (true,true,false) op 2 m1 a 0 q) (F:=F) (b0:=b) (tg1.out) (tb1.out) hs7
       have tg2:=hid_ tgo2
       have tb2:=hid_ tbo2
       clear tgo2 tbo2
       have hC2:=(hX1.call hgl hI7 hB7 hK7)
       clear y1 yz1 zy1
       obtain ⟨y0,y1,y2,y3,yz2,zy2,v0,v1,v2,v3⟩:=hC2.facts
       have hX2:=hC2.setx hw hgl 2 m2 op m1 m2 0 rfl
       clear y0 y1 y3 v0 v1 v2 v3
       obtain ⟨g0,g1,g2,g3,gz,gy,r0,r1,r2,r3⟩:=hX2.facts
       go_wp2_with (fail)
       obtain ⟨d1,d2,d3,d4⟩:=hX2.done hw hgl (.int .i64 op) (.int .i64 m1) (.int .i64 m2) (.int .i64 0)
       refine bodyPost_ret (results_cell_row rfl _ _ w.heap.size _ _ _ _ rfl d4 Try.underlying66 rfl rfl) rfl ?_
       refine ⟨_,⟨op,m1,m2,0⟩,p7,k7,b7,rfl,rfl,d1,d2,d3,(fun _=>?_),fun h=>absurd rfl h⟩
       rw [HFF.out]
       by_cases hkk:(k7:Int)=0
       ·
        obtain ⟨_,_,e1,e2⟩:=tg2.out hkk
        rw [←e2]
        exact ⟨rfl,rfl,hkk,e1⟩
       ·
        rw [tb2.out hkk]
        exact ⟨rfl,rfl⟩
      | true =>
       obtain ⟨y0,y1,y2,y3,yz,zy,v0,v1,v2,v3⟩:=hS5.facts
       clear y0 y1 y2 y3 v0 v1 v2 v3
       go_wp2_with (fail)
       refine (cZy bs hb hlen w0 W5 g (p+1) 0 b hS5.rd hS5.below (fun _=>⟨hpa,hpb⟩) 0 65535).mono ?_
       rintro e w6 ⟨vv,m1,p6,k6,b6,rfl,rfl,hI6,hB6,hK6,hs6⟩
       obtain ⟨tgo1,tbo1⟩:=bZb (G:=fun a q=>aZK bs (true,true,true) op 1 a 0 0 q) (F:=F) (b0:=b) (fun _=>⟨hpa,hpb,rfl,HL0.out⟩) (fun h=>absurd rfl h) hs6
       have tg1:=hid_ tgo1
       have tb1:=hid_ tbo1
       clear tgo1 tbo1
       have hC1:=(hS5.call hgl hI6 hB6 hK6)
       clear yz zy
       obtain ⟨y0,y1,y2,y3,yz1,zy1,v0,v1,v2,v3⟩:=hC1.facts
       have hX1:=hC1.setx hw hgl 1 m1 op m1 0 0 rfl
       clear y0 y2 y3 v0 v1 v2 v3
       go_wp2_with (fail)
       refine (cZy bs hb hlen w0 (w6.setCell ⟨w.heap.size+1,1,none⟩ (.int .i64 m1)) g p6 k6 b6 hX1.rd hX1.below (fun hk=>⟨(tg1.out hk).1,(tg1.out hk).2.1⟩) 0 65535).mono ?_
       rintro e w7 ⟨vv,m2,p7,k7,b7,rfl,rfl,hI7,hB7,hK7,hs7⟩
       obtain ⟨tgo2,tbo2⟩:=bZb (G:=fun a q=>aZK bs (true,true,true) op 2 m1 a 0 q) (F:=F) (b0:=b) (tg1.out) (tb1.out) hs7
       have tg2:=hid_ tgo2
       have tb2:=hid_ tbo2
       clear tgo2 tbo2
       have hC2:=(hX1.call hgl hI7 hB7 hK7)
       clear y1 yz1 zy1
       obtain ⟨y0,y1,y2,y3,yz2,zy2,v0,v1,v2,v3⟩:=hC2.facts
       have hX2:=hC2.setx hw hgl 2 m2 op m1 m2 0 rfl
       clear y0 y1 y3 v0 v1 v2 v3
       go_wp2_with (fail)
       refine (cZy bs hb hlen w0 (w7.setCell ⟨w.heap.size+1,2,none⟩ (.int .i64 m2)) g p7 k7 b7 hX2.rd hX2.below (fun hk=>⟨(tg2.out hk).1,(tg2.out hk).2.1⟩) 0 65535).mono ?_
       rintro e w8 ⟨vv,m3,p8,k8,b8,rfl,rfl,hI8,hB8,hK8,hs8⟩
       obtain ⟨tgo3,tbo3⟩:=bZb (G:=fun a q=>aZK bs (true,true,true) op 3 m1 m2 a q) (F:=F) (b0:=b) (tg2.out) (tb2.out) hs8
       have tg3:=hid_ tgo3
       have tb3:=hid_ tbo3
       clear tgo3 tbo3
       have hC3:=(hX2.call hgl hI8 hB8 hK8)
       clear y2 yz2 zy2
       obtain ⟨y0,y1,y2,y3,yz3,zy3,v0,v1,v2,v3⟩:=hC3.facts
       have hX3:=hC3.setx hw hgl 3 m3 op m1 m2 m3 rfl
       clear y0 y1 y2 v0 v1 v2 v3
       obtain ⟨g0,g1,g2,g3,gz,gy,r0,r1,r2,r3⟩:=hX3.facts
       go_wp2_with (fail)
       obtain ⟨d1,d2,d3,d4⟩:=hX3.done hw hgl (.int .i64 op) (.int .i64 m1) (.int .i64 m2) (.int .i64 m3)
       refine bodyPost_ret (results_cell_row rfl _ _ w.heap.size _ _ _ _ rfl d4 Try.underlying66 rfl rfl) rfl ?_
       refine ⟨_,⟨op,m1,m2,m3⟩,p8,k8,b8,rfl,rfl,d1,d2,d3,(fun _=>?_),fun h=>absurd rfl h⟩
       rw [HFF.out]
       by_cases hkk:(k8:Int)=0
       ·
        obtain ⟨_,_,e1,e2⟩:=tg3.out hkk
        rw [←e2]
        exact ⟨rfl,rfl,hkk,e1⟩
       ·
        rw [tb3.out hkk]
        exact ⟨rfl,rfl⟩
 ·
  have hk1:(k == 0)=false:=by rw [beq_eq_false_iff_ne];exact hk
  go_enter Try.func65,Try.ntmps65
  go_wp2_with (fail)
  refine bodyPost_ret (results_cell_row rfl _ _ w.heap.size _ _ _ _ rfl hS.z Try.underlying66 rfl rfl) rfl ?_
  exact ⟨_,⟨0,0,0,0⟩,p,k,b,rfl,rfl,hS.rd,hS.below,hS.keep,(fun h=>absurd h hk),fun _=>⟨rfl,rfl,rfl⟩⟩
end Go.Proofs.Ytbnplhmmbnmagaa.D
