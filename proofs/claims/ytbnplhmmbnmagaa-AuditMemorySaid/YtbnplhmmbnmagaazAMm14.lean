/- The reader's walks: program. -/
import Derived.Test.YtbnplhmmbnmagaazAMm12
import Derived.Deep.RegionLaw
import Derived.Defers
import Derived.Recover
set_option maxHeartbeats 4000000
set_option maxRecDepth 100000
set_option linter.all false
namespace Go.Proofs.Ytbnplhmmbnmagaa.D
open Go.RowKit Go.Proofs.YtbnplhmmbnmagaaW.PrintWords Go.Proofs.YtbnplhmmbnmagaaW.PrintLast Go.Proofs.YtbnplhmmbnmagaaW.PrintMore Go.Proofs.Ytbnplhmmbnmagaa.All
def IsPg (base:Nat) (g:Pg) (v:Value) (w:World):Prop :=
  ∃ vT vN vS vM vC:Value,v=.agg #[vT,vN,vS,vM,vC,.int .i64 g.dep,.int .i64 g.loc]∧Kd.string.R 9 w base (fun _=>True) vT g.T∧(Kd.int .i64).R 3 w base (fun _=>True) vN g.N∧(Kd.slice 9 Kd.string).R 22 w base (fun _=>True) vS g.S∧(Kd.slice 3 (Kd.int .i64)).R 23 w base (fun _=>True) vM g.M∧k66.R 66 w base (fun _=>True) vC g.C
theorem IsPg.drew {base:Nat} {g:Pg} {v:Value} {w:World} (h:IsPg base g v w):IsPg base g v w.drew:=by
  obtain ⟨a,b,c,d,e,h0,h1,h2,h3,h4,h5⟩:=h
  exact ⟨a,b,c,d,e,h0,Kd.R_drew h1,Kd.R_drew h2,Kd.R_drew h3,Kd.R_drew h4,Kd.R_drew h5⟩
def setZ (W:World) (Z:Nat) (a b c d e f g:Value):World:=((((((W.setCell ⟨Z,0,none⟩ a).setCell ⟨Z,1,none⟩ b).setCell ⟨Z,2,none⟩ c).setCell ⟨Z,3,none⟩ d).setCell ⟨Z,4,none⟩ e).setCell ⟨Z,5,none⟩ f).setCell ⟨Z,6,none⟩ g
theorem StP.done {w W:World} {R:Nat} {A:Option Addr} {cp:Nat} {bs:List Int} {q:Int} {B X Z:Nat} {vT vN vS vM vC:Value} {g:Pg} (h:StP w W R A cp bs q B X Z vT vN vS vM vC g) (hR:R<w.heap.size) :
 Rd w (setZ W Z vT vN vS vM vC (.int .i64 g.dep) (.int .i64 g.loc)) R A cp bs q∧(setZ W Z vT vN vS vM vC (.int .i64 g.dep) (.int .i64 g.loc)).heap[Z]?=some (.cells #[vT,vN,vS,vM,vC,.int .i64 g.dep,.int .i64 g.loc] 28 (0,0)) ∧
 IsPg w.heap.size g (.agg #[vT,vN,vS,vM,vC,.int .i64 g.dep,.int .i64 g.loc]) (setZ W Z vT vN vS vM vC (.int .i64 g.dep) (.int .i64 g.loc)):=by
 have hZ:=h.zR
 have hX:=h.zX
 have e:∀ k,k≠Z→(setZ W Z vT vN vS vM vC (.int .i64 g.dep) (.int .i64 g.loc)).heap[k]?=W.heap[k]?:=fun k hk=>by
  unfold setZ
  rw [Below.heap_setCell _ _ _ _ (by simpa using hk),Below.heap_setCell _ _ _ _ (by simpa using hk),Below.heap_setCell _ _ _ _ (by simpa using hk),Below.heap_setCell _ _ _ _ (by simpa using hk),Below.heap_setCell _ _ _ _ (by simpa using hk),Below.heap_setCell _ _ _ _ (by simpa using hk),Below.heap_setCell _ _ _ _ (by simpa using hk)]
 have far:∀ {α:Type} {d:Kd α} {t:Nat} {v:Value} {l:List α},d.R t W w.heap.size (fun k=>X<k) v l→d.R t (setZ W Z vT vN vS vM vC (.int .i64 g.dep) (.int .i64 g.loc)) w.heap.size (fun _=>True) v l:=fun hv =>
  Kd.R_mono (Kd.R_step hv (fun k hk _=>e k (by omega))) (fun _ _=>trivial)
 refine ⟨⟨?_,?_,(e R (by omega)).trans h.rd.blk,h.rd.row⟩,?_,⟨vT,vN,vS,vM,vC,rfl,far h.rT,far h.rN,far h.rS,far h.rM,far h.rC⟩⟩
 ·
  unfold setZ
  exact ((((((h.rd.below.setCell (by simp;omega) _).setCell (by simp;omega) _).setCell (by simp;omega) _).setCell (by simp;omega) _).setCell (by simp;omega) _).setCell (by simp;omega) _).setCell (by simp;omega) _
 ·
  unfold setZ
  exact ((((((h.rd.kept.setCell (.inr hZ) _).setCell (.inr hZ) _).setCell (.inr hZ) _).setCell (.inr hZ) _).setCell (.inr hZ) _).setCell (.inr hZ) _).setCell (.inr hZ) _
 ·
  unfold setZ
  simp [World.setCell,h.z,Array.getElem?_modify]
structure StH (w W:World) (R:Nat) (A:Option Addr) (cp:Nat) (bs:List Int):Prop where
  rd:Rd w W R A cp bs 0
  b:W.heap[w.heap.size]?=some (.cells #[.pointer (some ⟨R,0,none⟩)] 123 (0,0))
  z:W.heap[w.heap.size+1]?=some (.cells #[.slice none 0 0,.slice none 0 0,.slice none 0 0,.slice none 0 0,.slice none 0 0,.int .i64 0,.int .i64 0] 28 (0,0))
  size:W.heap.size=w.heap.size+2
theorem StH.start {w:World} {R:Nat} {A:Option Addr} {cp:Nat} {bs:List Int} (h:Rd w w R A cp bs 0) :
 StH w ((w.alloc (.cells #[.pointer (some ⟨R,0,none⟩)] 123)).alloc (.cells #[.slice none 0 0,.slice none 0 0,.slice none 0 0,.slice none 0 0,.slice none 0 0,.int .i64 0,.int .i64 0] 28)) R A cp bs:=by
 refine ⟨(h.alloc _).alloc _,?_,?_,by simp⟩
 ·
  rw [heap_alloc_old _ _ (by simp)]
  exact heap_alloc_new w _
 ·
  have:=heap_alloc_new (w.alloc (.cells #[.pointer (some ⟨R,0,none⟩)] 123)) (.cells #[.slice none 0 0,.slice none 0 0,.slice none 0 0,.slice none 0 0,.slice none 0 0,.int .i64 0,.int .i64 0] 28)
  simpa using this
theorem StH.drew {w W:World} {R:Nat} {A:Option Addr} {cp:Nat} {bs:List Int} (h:StH w W R A cp bs):StH w W.drew R A cp bs:=⟨h.rd.drew,h.b,h.z,h.size⟩
def hF (bs:List Int) (d i:Nat):Except (Int × Int) (Pg × Int):=match bZ6 bs d i with|some f=>.error f|none=>pDep bs 4
theorem hF_step (bs:List Int) (d i:Nat):hF bs (d+1) i=if bs.length≤i then .error (201,(bs.length:Int)) else if bs.getD i 0≠eZk i then .error (200,(i:Int)) else hF bs d (i+1):=by
 unfold hF
 rw [bZ6]
 by_cases h1:bs.length≤i
 · rw [if_pos h1,if_pos h1]
 ·
  rw [if_neg h1,if_neg h1]
  by_cases h2:bs.getD i 0≠eZk i
  · rw [if_pos h2,if_pos h2]
  · rw [if_neg h2,if_neg h2]
theorem StH.made {w W:World} {R:Nat} {A:Option Addr} {cp:Nat} {bs:List Int} (h:StH w W R A cp bs) (hR:R<w.heap.size) :
 StP w ((W.setCell ⟨R,1,none⟩ (.int .i64 4)).alloc (.cells #[.slice none 0 0,.slice none 0 0,.slice none 0 0,.slice none 0 0,.slice none 0 0,.int .i64 0,.int .i64 0] 28)) R A cp bs 4 w.heap.size W.heap.size (w.heap.size+1) (.slice none 0 0) (.slice none 0 0) (.slice none 0 0) (.slice none 0 0) (.slice none 0 0) ⟨[],[],[],[],[],0,0⟩:=by
 have hs:=h.size
 have es:(W.setCell ⟨R,1,none⟩ (.int .i64 4)).heap.size=W.heap.size:=by simp [World.setCell]
 refine ⟨(h.rd.set 4).alloc _,?_,?_,?_,by omega,by omega,by omega,by omega,by omega,Kd.R_nil _ _ _ _ _,Kd.R_nil _ _ _ _ _,Kd.R_nil _ _ _ _ _,Kd.R_nil _ _ _ _ _,Kd.R_nil _ _ _ _ _⟩
 · rw [heap_alloc_old _ _ (by rw [es];omega),Below.heap_setCell _ _ _ _ (by simp;omega)];exact h.b
 ·
  have:=heap_alloc_new (W.setCell ⟨R,1,none⟩ (.int .i64 4)) (.cells #[.slice none 0 0,.slice none 0 0,.slice none 0 0,.slice none 0 0,.slice none 0 0,.int .i64 0,.int .i64 0] 28)
  rwa [es] at this
 · rw [heap_alloc_old _ _ (by rw [es];omega),Below.heap_setCell _ _ _ _ (by simp;omega)];exact h.z
theorem gZW (w:World) (R:Nat) (A:Option Addr) (cp:Nat) (bs:List Int) (h:Rd w w R A cp bs 0) (G:Good bs) (hbc:bs.length≤cp) :
 Calls Try.prog 53 #[.pointer (some ⟨R,0,none⟩)] w (Fin w R A cp bs (aZJ bs) (fun g v w'=>IsPg w.heap.size g v w')):=by
 have hlen:=G.len
 have hlt:=h.lt
 have hmf:∀ (fn:Fn) (first cap:Array Value) (w:World),(Instr.makeFunc fn first cap).run Try.prog w=.ok (.func fn first cap) w:=fun _ _ _ _=>rfl
 rw [show aZJ bs=D.hF bs 4 0 from rfl]
 generalize hF:D.hF bs 4 0=F
 have HF:=hid_ hF;clear hF
 go_enter Try.func53,Try.ntmps53
 go_wp2_with (fail)
 have hS:=StH.start h
 generalize ((w.alloc (.cells #[.pointer (some ⟨R,0,none⟩)] 123)).alloc (.cells #[.slice none 0 0,.slice none 0 0,.slice none 0 0,.slice none 0 0,.slice none 0 0,.int .i64 0,.int .i64 0] 28))=w2 at hS ⊢
 go_loopw [6] (fun i wr=>∃ k:Nat,k≤4∧k≤bs.length∧i=.int .i64 k∧StH w wr R A cp bs∧D.hF bs (4 - k) k=F) (fun i _=>4 - (intOf i).toNat)
 case atStart=>exact ⟨0,by omega,by omega,rfl,hS,HF.out⟩
 case round =>
  clear hS HF
  obtain ⟨k,hk,hkl,rfl,hS,he⟩:=hrel
  have HE:=hid_ he;clear he
  obtain ⟨c0,c1,z1⟩:=hS.rd.cells
  have b0:wr.cell? ⟨w.heap.size,0,none⟩=some (.pointer (some ⟨R,0,none⟩)):=by simp [World.cell?,hS.b]
  by_cases hk4:k<4
  ·
   have he:=HE.out
   rw [show 4 - k=(3 - k)+1 by omega,hF_step] at he
   by_cases hend:bs.length≤k
   ·
    rw [if_pos hend] at he
    have HE2:=hid_ he.symm
    clear HE he
    have hend':(bs.length:Int)≤k:=by omega
    have hend2:decide ((bs.length:Int)≤k)=true:=by simpa using hend'
    go_wp2_with ((with_reducible refine (aZ3 _ _ _).mono ?_);rintro e w' ⟨rfl,rfl⟩)
    exact ⟨rfl,Fin.fail hS.rd rfl HE2.out⟩
   ·
    rw [if_neg hend] at he
    obtain ⟨ad,rfl,hcell⟩:=hS.rd.byte k (by omega) (by omega)
    rw [Int.toNat_natCast] at hcell
    generalize bs.getD k 0=x at hcell he
    have hk':k=0∨k=1∨k=2∨k=3:=by omega
    rcases hk' with rfl|rfl|rfl|rfl
    ·
     have hne:¬bs=[]:=by rintro rfl;simp at hend
     have hcell2:wr.cell? ad=some (.int .u8 x):=hcell
     clear hcell
     by_cases hx:x=eZk 0
     ·
      rw [if_neg (fun h=>h hx)] at he
      have HE2:Hid (D.hF bs (3 - 0) (0+1)=F):=hid_ he
      clear HE he
      subst hx
      go_wp2_with (fail)
      go_region
      go_wp2_with (fail)
      go_roundw
      case rel=>exact ⟨1,by omega,by omega,rfl,hS.drew,HE2.out⟩
      case measure=>simp [intOf]
     ·
      rw [if_pos hx] at he
      have HE2:Hid (F=Except.error (200,0)):=hid_ he.symm
      clear HE he
      have hx2:¬x=66:=hx
      clear hx
      go_wp2_with (fail)
      go_region
      go_wp2_with ((with_reducible refine (aZ3 _ _ _).mono ?_);rintro e w' ⟨rfl,rfl⟩)
      all_goals first
       | exact ⟨rfl,(Fin.fail hS.rd rfl HE2.out).pdrew⟩
       | (rename_i hn;have h3:(x != 66)=false:=hn;exact absurd (by simpa using h3) hx2)
    ·
     have hcell2:wr.cell? ⟨ad.block,ad.off+1,none⟩=some (.int .u8 x):=hcell
     clear hcell
     by_cases hx:x=eZk 1
     ·
      rw [if_neg (fun h=>h hx)] at he
      have HE2:Hid (D.hF bs (3 - 1) (1+1)=F):=hid_ he
      clear HE he
      subst hx
      go_wp2_with (fail)
      go_region
      go_wp2_with (fail)
      go_roundw
      case rel=>exact ⟨2,by omega,by omega,rfl,hS.drew,HE2.out⟩
      case measure=>simp [intOf]
     ·
      rw [if_pos hx] at he
      have HE2:Hid (F=Except.error (200,1)):=hid_ he.symm
      clear HE he
      have hx2:¬x=82:=hx
      clear hx
      go_wp2_with (fail)
      go_region
      go_wp2_with ((with_reducible refine (aZ3 _ _ _).mono ?_);rintro e w' ⟨rfl,rfl⟩)
      all_goals first
       | exact ⟨rfl,(Fin.fail hS.rd rfl HE2.out).pdrew⟩
       | (rename_i hn;have h3:(x != 82)=false:=hn;exact absurd (by simpa using h3) hx2)
    ·
     have hcell2:wr.cell? ⟨ad.block,ad.off+2,none⟩=some (.int .u8 x):=hcell
     clear hcell
     by_cases hx:x=eZk 2
     ·
      rw [if_neg (fun h=>h hx)] at he
      have HE2:Hid (D.hF bs (3 - 2) (2+1)=F):=hid_ he
      clear HE he
      subst hx
      go_wp2_with (fail)
      go_region
      go_wp2_with (fail)
      go_roundw
      case rel=>exact ⟨3,by omega,by omega,rfl,hS.drew,HE2.out⟩
      case measure=>simp [intOf]
     ·
      rw [if_pos hx] at he
      have HE2:Hid (F=Except.error (200,2)):=hid_ he.symm
      clear HE he
      have hx2:¬x=84:=hx
      clear hx
      go_wp2_with (fail)
      go_region
      go_wp2_with ((with_reducible refine (aZ3 _ _ _).mono ?_);rintro e w' ⟨rfl,rfl⟩)
      all_goals first
       | exact ⟨rfl,(Fin.fail hS.rd rfl HE2.out).pdrew⟩
       | (rename_i hn;have h3:(x != 84)=false:=hn;exact absurd (by simpa using h3) hx2)
    ·
     have hcell2:wr.cell? ⟨ad.block,ad.off+3,none⟩=some (.int .u8 x):=hcell
     clear hcell
     by_cases hx:x=eZk 3
     ·
      rw [if_neg (fun h=>h hx)] at he
      have HE2:Hid (D.hF bs (3 - 3) (3+1)=F):=hid_ he
      clear HE he
      subst hx
      go_wp2_with (fail)
      go_region
      go_wp2_with (fail)
      go_roundw
      case rel=>exact ⟨4,by omega,by omega,rfl,hS.drew,HE2.out⟩
      case measure=>simp [intOf]
     ·
      rw [if_pos hx] at he
      have HE2:Hid (F=Except.error (200,3)):=hid_ he.symm
      clear HE he
      have hx2:¬x=1:=hx
      clear hx
      go_wp2_with (fail)
      go_region
      go_wp2_with ((with_reducible refine (aZ3 _ _ _).mono ?_);rintro e w' ⟨rfl,rfl⟩)
      all_goals first
       | exact ⟨rfl,(Fin.fail hS.rd rfl HE2.out).pdrew⟩
       | (rename_i hn;have h3:(x != 1)=false:=hn;exact absurd (by simpa using h3) hx2)
  ·
   obtain rfl:k=4:=by omega
   have HE2:Hid (pDep bs 4=F):=hid_ HE.out
   clear HE
   have hP:=hS.made hlt
   obtain ⟨p0,p1,p2,p3,p4,p5,p6,p7,f0,f1,f2,f3,f4,f5,f6⟩:=hP.cells
   go_wp2_with (fail)
   clear p0 p1 p2 p3 p4 p5 p6 p7 f0 f1 f2 f3 f4 f5 f6 c0 c1 z1 b0 hS
   generalize hX:wr.heap.size=X at hP ⊢
   clear hX
   generalize ((wr.setCell ⟨R,1,none⟩ (.int .i64 4)).alloc (.cells #[.slice none 0 0,.slice none 0 0,.slice none 0 0,.slice none 0 0,.slice none 0 0,.int .i64 0,.int .i64 0] 28))=W at hP ⊢
   have HC:=bZu _ R A cp bs 4 0 128 hP.rd.self (by omega) (by omega) G.byte G.len (by omega) (by omega)
   have he:=HE2.out
   unfold pDep at he
   cases hc:aZn bs 4 0 128 with
   | error f =>
    rw [hc] at HC he
    have HE:Hid (F=Except.error f):=hid_ he.symm
    clear he HE2 hc
    refine HC.mono ?_
    intro e w' hf
    obtain ⟨ps,rfl⟩:=hf.pan
    go_wp2_with (fail)
    exact ⟨rfl,Fin.trans hP.rd (hf.err HE.out)⟩
   | ok xq =>
    obtain ⟨dep,q1⟩:=xq
    obtain ⟨dep1,dep2,dep3,dep4⟩:=aZs hc
    rw [hc] at HC he
    have HE2:Hid (pLoc bs dep q1=F):=hid_ he
    clear he hc
    refine HC.mono ?_
    rintro e W1 ⟨v,rfl,rfl,hr⟩
    have hP1:=hP.call hlt hr
    clear HC hr hP
    obtain ⟨p0,p1,p2,p3,p4,p5,p6,p7,f0,f1,f2,f3,f4,f5,f6⟩:=hP1.cells
    have hP:=hP1.put5 hlt dep
    clear hP1
    go_wp2_with (fail)
    clear p0 p1 p2 p3 p4 p5 p6 p7 f0 f1 f2 f3 f4 f5 f6
    generalize W1.setCell ⟨X,5,none⟩ (.int .i64 dep)=W1s at hP ⊢
    have HC:=bZu _ R A cp bs q1 0 1024 hP.rd.self (by omega) (by omega) G.byte G.len (by omega) (by omega)
    have he:=HE2.out
    unfold pLoc at he
    cases hc:aZn bs q1 0 1024 with
    | error f =>
     rw [hc] at HC he
     have HE:Hid (F=Except.error f):=hid_ he.symm
     clear he HE2 hc
     refine HC.mono ?_
     intro e w' hf
     obtain ⟨ps,rfl⟩:=hf.pan
     go_wp2_with (fail)
     exact ⟨rfl,Fin.trans hP.rd (hf.err HE.out)⟩
    | ok xq =>
     obtain ⟨loc,q2⟩:=xq
     obtain ⟨loc1,loc2,loc3,loc4⟩:=aZs hc
     rw [hc] at HC he
     have HE2:Hid (pT bs dep loc q2=F):=hid_ he
     clear he hc
     refine HC.mono ?_
     rintro e W2 ⟨v,rfl,rfl,hr⟩
     have hP1:=hP.call hlt hr
     clear HC hr hP
     obtain ⟨p0,p1,p2,p3,p4,p5,p6,p7,f0,f1,f2,f3,f4,f5,f6⟩:=hP1.cells
     have hP:=hP1.put6 hlt loc
     clear hP1
     go_wp2_with (fail)
     clear p0 p1 p2 p3 p4 p5 p6 p7 f0 f1 f2 f3 f4 f5 f6
     generalize W2.setCell ⟨X,6,none⟩ (.int .i64 loc)=W2s at hP ⊢
     have HC:=list73 _ R A cp bs q2 0 (4096) hP.rd.self (by omega) (by omega) G (by omega) (by omega) (by omega) (by omega) (bZh bs) cmpS (aZ8 bs) (fun wr q hr h0 h1=>hZr wr R A cp bs q hr.self h0 h1 G hbc) (fun a b w=>hZL a b w)
     have he:=HE2.out
     unfold pT at he
     cases hc:aZQ ByteArray.empty (bZh bs) cmpS bs q2 0 (4096) with
     | error f =>
      rw [hc] at HC he
      have HE:Hid (F=Except.error f):=hid_ he.symm
      clear he HE2 hc
      refine HC.mono ?_
      intro e w' hf
      obtain ⟨ps,rfl⟩:=hf.pan
      go_wp2_with (fail)
      exact ⟨rfl,Fin.trans hP.rd (hf.err HE.out)⟩
     | ok xq =>
      obtain ⟨T,q3⟩:=xq
      obtain ⟨T1,T2,T3,T4⟩:=bZ0 (aZ8 bs) (by omega) (by omega) hc
      rw [hc] at HC he
      have HE2:Hid (pN bs T dep loc q3=F):=hid_ he
      clear he hc
      refine HC.mono ?_
      rintro e W3 ⟨v,rfl,hv,hr⟩
      obtain ⟨AT,cT,rfl⟩:=Kd.R_slice hv
      have hv2:=hP.mine hv
      have hP1:=hP.call hlt hr
      clear HC hr hP hv
      obtain ⟨p0,p1,p2,p3,p4,p5,p6,p7,f0,f1,f2,f3,f4,f5,f6⟩:=hP1.cells
      have hP:=hP1.put0 hlt hv2
      clear hP1 hv2
      obtain ⟨r0,r1,r2,r3,r4,r5,r6,r7,g0,g1,g2,g3,g4,g5,g6⟩:=hP.cells
      go_wp2_with (fail)
      clear p0 p1 p2 p3 p4 p5 p6 p7 f0 f1 f2 f3 f4 f5 f6
      clear r0 r1 r2 r3 r4 r5 r6 r7 g0 g1 g2 g3 g4 g5 g6
      generalize W3.setCell ⟨X,0,none⟩ (.slice AT T.length cT)=W3s at hP ⊢
      obtain ⟨p0,p1,p2,p3,p4,p5,p6,p7,f0,f1,f2,f3,f4,f5,f6⟩:=hP.cells
      have HC:=list75 _ R A cp bs q3 0 (4096 - T.length) hP.rd.self (by omega) (by omega) G (by omega) (by omega) (by omega) (by omega) (numF bs) cmpI (bZp bs) (fun wr q hr h0 h1=>num_any wr R A cp bs q hr.self h0 h1 G) (fun a b w=>hZM a b w)
      have he:=HE2.out
      unfold pN at he
      cases hc:aZQ 0 (numF bs) cmpI bs q3 0 (4096 - T.length) with
      | error f =>
       rw [hc] at HC he
       have HE:Hid (F=Except.error f):=hid_ he.symm
       clear he HE2 hc
       refine HC.mono ?_
       intro e w' hf
       obtain ⟨ps,rfl⟩:=hf.pan
       go_wp2_with (fail)
       exact ⟨rfl,Fin.trans hP.rd (hf.err HE.out)⟩
      | ok xq =>
       obtain ⟨N,q4⟩:=xq
       obtain ⟨N1,N2,N3,N4⟩:=bZ0 (bZp bs) (by omega) (by omega) hc
       rw [hc] at HC he
       have HE2:Hid (pS bs T N dep loc q4=F):=hid_ he
       clear he hc
       refine HC.mono ?_
       rintro e W4 ⟨v,rfl,hv,hr⟩
       obtain ⟨AN,cN,rfl⟩:=Kd.R_slice hv
       have hv2:=hP.mine hv
       have hP1:=hP.call hlt hr
       clear HC hr hP hv
       clear p0 p1 p2 p3 p4 p5 p6 p7 f0 f1 f2 f3 f4 f5 f6
       obtain ⟨p0,p1,p2,p3,p4,p5,p6,p7,f0,f1,f2,f3,f4,f5,f6⟩:=hP1.cells
       have hP:=hP1.put1 hlt hv2
       clear hP1 hv2
       obtain ⟨r0,r1,r2,r3,r4,r5,r6,r7,g0,g1,g2,g3,g4,g5,g6⟩:=hP.cells
       go_wp2_with (fail)
       clear p0 p1 p2 p3 p4 p5 p6 p7 f0 f1 f2 f3 f4 f5 f6
       clear r0 r1 r2 r3 r4 r5 r6 r7 g0 g1 g2 g3 g4 g5 g6
       generalize W4.setCell ⟨X,1,none⟩ (.slice AN N.length cN)=W4s at hP ⊢
       obtain ⟨p0,p1,p2,p3,p4,p5,p6,p7,f0,f1,f2,f3,f4,f5,f6⟩:=hP.cells
       have HC:=list77 _ R A cp bs q4 0 (4096 - T.length - N.length) hP.rd.self (by omega) (by omega) G (by omega) (by omega) (by omega) (by omega) (bZc bs) (cmpL cmpS) (bZW _ bs _ _ (aZ8 bs) _ _ (by omega)) ⟨w.heap.size,0,none⟩ (fun wr q hr h0 h1=>prog1_any wr R A cp bs q hr.self h0 h1 G hbc _ (gZI p0 hr.kept (by show ¬w.heap.size=R;omega))) (fun A0 c0 l0 A1 c1 l1 w h0 h1 h2 h3=>cmpLS_any A0 c0 l0 A1 c1 l1 w h0 h1 h2 h3)
       have he:=HE2.out
       unfold pS at he
       cases hc:aZQ [] (bZc bs) (cmpL cmpS) bs q4 0 (4096 - T.length - N.length) with
       | error f =>
        rw [hc] at HC he
        have HE:Hid (F=Except.error f):=hid_ he.symm
        clear he HE2 hc
        refine HC.mono ?_
        intro e w' hf
        obtain ⟨ps,rfl⟩:=hf.pan
        go_wp2_with (fail)
        exact ⟨rfl,Fin.trans hP.rd (hf.err HE.out)⟩
       | ok xq =>
        obtain ⟨S,q5⟩:=xq
        obtain ⟨S1,S2,S3,S4⟩:=bZ0 (bZW _ bs _ _ (aZ8 bs) _ _ (by omega)) (by omega) (by omega) hc
        rw [hc] at HC he
        have HE2:Hid (pM bs T N S dep loc q5=F):=hid_ he
        clear he hc
        refine HC.mono ?_
        rintro e W5 ⟨v,rfl,hv,hr⟩
        obtain ⟨AS,cS,rfl⟩:=Kd.R_slice hv
        have hv2:=hP.mine hv
        have hP1:=hP.call hlt hr
        clear HC hr hP hv
        clear p0 p1 p2 p3 p4 p5 p6 p7 f0 f1 f2 f3 f4 f5 f6
        obtain ⟨p0,p1,p2,p3,p4,p5,p6,p7,f0,f1,f2,f3,f4,f5,f6⟩:=hP1.cells
        have hP:=hP1.put2 hlt hv2
        clear hP1 hv2
        obtain ⟨r0,r1,r2,r3,r4,r5,r6,r7,g0,g1,g2,g3,g4,g5,g6⟩:=hP.cells
        go_wp2_with (fail)
        clear p0 p1 p2 p3 p4 p5 p6 p7 f0 f1 f2 f3 f4 f5 f6
        clear r0 r1 r2 r3 r4 r5 r6 r7 g0 g1 g2 g3 g4 g5 g6
        generalize W5.setCell ⟨X,2,none⟩ (.slice AS S.length cS)=W5s at hP ⊢
        obtain ⟨p0,p1,p2,p3,p4,p5,p6,p7,f0,f1,f2,f3,f4,f5,f6⟩:=hP.cells
        have HC:=list79 _ R A cp bs q5 0 (4096 - T.length - N.length - S.length) hP.rd.self (by omega) (by omega) G (by omega) (by omega) (by omega) (by omega) (bZt bs) (cmpL cmpI) (bZW _ bs _ _ (bZp bs) _ _ (by omega)) ⟨w.heap.size,0,none⟩ (fun wr q hr h0 h1=>prog2_any wr R A cp bs q hr.self h0 h1 G hbc _ (gZI p0 hr.kept (by show ¬w.heap.size=R;omega))) (fun A0 c0 l0 A1 c1 l1 w h0 h1 h2 h3=>cmpLI_any A0 c0 l0 A1 c1 l1 w h0 h1 h2 h3)
        have he:=HE2.out
        unfold pM at he
        cases hc:aZQ [] (bZt bs) (cmpL cmpI) bs q5 0 (4096 - T.length - N.length - S.length) with
        | error f =>
         rw [hc] at HC he
         have HE:Hid (F=Except.error f):=hid_ he.symm
         clear he HE2 hc
         refine HC.mono ?_
         intro e w' hf
         obtain ⟨ps,rfl⟩:=hf.pan
         go_wp2_with (fail)
         exact ⟨rfl,Fin.trans hP.rd (hf.err HE.out)⟩
        | ok xq =>
         obtain ⟨M,q6⟩:=xq
         obtain ⟨M1,M2,M3,M4⟩:=bZ0 (bZW _ bs _ _ (bZp bs) _ _ (by omega)) (by omega) (by omega) hc
         rw [hc] at HC he
         have HE2:Hid (dZ1 bs T N S M dep loc q6=F):=hid_ he
         clear he hc
         refine HC.mono ?_
         rintro e W6 ⟨v,rfl,hv,hr⟩
         obtain ⟨AM,cM,rfl⟩:=Kd.R_slice hv
         have hv2:=hP.mine hv
         have hP1:=hP.call hlt hr
         clear HC hr hP hv
         clear p0 p1 p2 p3 p4 p5 p6 p7 f0 f1 f2 f3 f4 f5 f6
         obtain ⟨p0,p1,p2,p3,p4,p5,p6,p7,f0,f1,f2,f3,f4,f5,f6⟩:=hP1.cells
         have hP:=hP1.put3 hlt hv2
         clear hP1 hv2
         obtain ⟨r0,r1,r2,r3,r4,r5,r6,r7,g0,g1,g2,g3,g4,g5,g6⟩:=hP.cells
         go_wp2_with (fail)
         clear p0 p1 p2 p3 p4 p5 p6 p7 f0 f1 f2 f3 f4 f5 f6
         clear r0 r1 r2 r3 r4 r5 r6 r7 g0 g1 g2 g3 g4 g5 g6
         generalize W6.setCell ⟨X,3,none⟩ (.slice AM M.length cM)=W6s at hP ⊢
         obtain ⟨p0,p1,p2,p3,p4,p5,p6,p7,f0,f1,f2,f3,f4,f5,f6⟩:=hP.cells
         have HC:=bZu _ R A cp bs q6 0 32768 hP.rd.self (by omega) (by omega) G.byte G.len (by omega) (by omega)
         have he:=HE2.out
         unfold dZ1 at he
         cases hc:aZn bs q6 0 32768 with
         | error f =>
          rw [hc] at HC he
          have HE:Hid (F=Except.error f):=hid_ he.symm
          clear he HE2 hc
          refine HC.mono ?_
          intro e w' hf
          obtain ⟨ps,rfl⟩:=hf.pan
          go_wp2_with (fail)
          exact ⟨rfl,Fin.trans hP.rd (hf.err HE.out)⟩
         | ok xq =>
          obtain ⟨n,q7⟩:=xq
          obtain ⟨n1,n2,n3,n4⟩:=aZs hc
          rw [hc] at HC he
          have HE2:Hid (dZn bs T N S M dep loc n.toNat q7 []=F):=hid_ he
          clear he hc
          refine HC.mono ?_
          rintro e W7 ⟨v,rfl,rfl,hr⟩
          have hP1:=hP.call hlt hr
          clear HC hr hP
          obtain ⟨m,rfl⟩:=Int.eq_ofNat_of_zero_le (show 0≤n by omega)
          rw [Int.toNat_natCast] at HE2
          clear p0 p1 p2 p3 p4 p5 p6 p7 f0 f1 f2 f3 f4 f5 f6
          obtain ⟨p0,p1,p2,p3,p4,p5,p6,p7,f0,f1,f2,f3,f4,f5,f6⟩:=hP1.cells
          go_wp2_with (fail)
          clear p0 p1 p2 p3 p4 p5 p6 p7 f0 f1 f2 f3 f4 f5 f6
          go_loopw [85] (fun i wr=>∃ (k:Nat) (q:Int) (vC:Value) (C:List S66),k≤m∧i=.int .u64 k∧0≤q∧q≤bs.length∧C.length=k∧StP w wr R A cp bs q w.heap.size X (w.heap.size+1) (.slice AT T.length cT) (.slice AN N.length cN) (.slice AS S.length cS) (.slice AM M.length cM) vC ⟨T,N,S,M,C,dep,loc⟩∧dZn bs T N S M dep loc (m - k) q C=F) (fun i _=>m - (intOf i).toNat)
          case atStart=>exact ⟨0,q7,_,[],by omega,rfl,by omega,by omega,rfl,hP1,HE2.out⟩
          case round =>
           clear hP1 HE2
           obtain ⟨k,q,vC,C,hk,rfl,hq,hq2,hCl,hP,he⟩:=hrel
           have HE:=hid_ he;clear he
           have HCL:=hid_ hCl;clear hCl
           obtain ⟨p0,p1,p2,p3,p4,p5,p6,p7,f0,f1,f2,f3,f4,f5,f6⟩:=hP.cells
           by_cases hkm:k<m
           ·
            have HO:=fun W hW=>instr_any W R A cp bs q hW hq hq2 G
            have hPd:=hP.drew
            have he:=HE.out
            rw [show m - k=(m - k - 1)+1 by omega] at he
            have hst:dZn bs T N S M dep loc ((m - k - 1)+1) q C=match aZ7 bs q with | .error f=>.error f | .ok (x,q2)=>dZn bs T N S M dep loc (m - k - 1) q2 (C++[x]):=by
             unfold dZn
             rw [cZo]
             cases aZ7 bs q <;> rfl
            rw [hst] at he
            cases ho:aZ7 bs q with
            | error f =>
             rw [ho] at he
             simp only [ho] at HO
             have HE2:Hid (F=Except.error f):=hid_ he.symm
             clear he HE hst ho
             go_wp2_with (fail)
             refine wp_region_any (by kernel_rfl) ?_
             change wpAny _ _ _ _ _ _ _ (World.drew _)
             refine wpAny_take (i:=0) (v:=.pointer (some ⟨X,4,none⟩)) rfl (by kernel_rfl) (by kernel_rfl) (by kernel_rfl) (fun _ _ _ h=>h) (Or.inl ⟨by rfl,by intro w;go_simp⟩) ?_
             refine wpAny_ready (rs:=[1,2]) (by kernel_rfl) (by simp) ?_
             refine AllReady.cons rfl (fun K hK=>?_) (AllReady.cons rfl (fun K hK=>?_) AllReady.nil)
             ·
              go_simp
              refine hK _ _ ?_
              clear hK K
              refine wpAny_ready (rs:=[2]) (by kernel_rfl) (by simp) ?_
              refine AllReady.cons rfl (fun K hK=>?_) AllReady.nil
              go_simp
              refine hK _ _ ?_
              clear hK K
              refine wpAny_ready (rs:=[3]) (by kernel_rfl) (by simp) ?_
              refine AllReady.cons rfl (fun K hK=>?_) AllReady.nil
              go_simp
              refine (HO _ hPd.rd.self).mono ?_
              intro e w' hf
              obtain ⟨ps,rfl⟩:=hf.pan
              go_wp2_with (fail)
              exact ⟨rfl,Fin.trans hPd.rd (hf.err HE2.out)⟩
             ·
              go_simp
              refine hK _ _ ?_
              clear hK K
              refine wpAny_ready (rs:=[1,3]) (by kernel_rfl) (by simp) ?_
              refine AllReady.cons rfl (fun K hK=>?_) (AllReady.cons rfl (fun K hK=>?_) AllReady.nil)
              ·
               go_simp
               refine hK _ _ ?_
               clear hK K
               refine wpAny_ready (rs:=[3]) (by kernel_rfl) (by simp) ?_
               refine AllReady.cons rfl (fun K hK=>?_) AllReady.nil
               go_simp
               refine (HO _ hPd.rd.self).mono ?_
               intro e w' hf
               obtain ⟨ps,rfl⟩:=hf.pan
               go_wp2_with (fail)
               exact ⟨rfl,Fin.trans hPd.rd (hf.err HE2.out)⟩
              ·
               go_simp
               refine (HO _ hPd.rd.self).mono ?_
               intro e w' hf
               obtain ⟨ps,rfl⟩:=hf.pan
               go_wp2_with (fail)
               exact ⟨rfl,Fin.trans hPd.rd (hf.err HE2.out)⟩
            | ok xq =>
             obtain ⟨x,q2⟩:=xq
             obtain ⟨hqa,hqb⟩:=eZi bs q x q2 hq ho
             rw [ho] at he
             simp only [ho] at HO
             have HE2:Hid (dZn bs T N S M dep loc (m - k - 1) q2 (C++[x])=F):=hid_ he
             clear he HE hst ho
             go_wp2_with (fail)
             go_region_law (first
              | (go_simp;go_at_call 91;(with_reducible refine (HO _ hPd.rd.self).mono ?_);rintro e W8 ⟨v,rfl,rfl,hr⟩;have hP8:=hPd.call hlt hr;obtain ⟨r0,r1,r2,r3,r4,r5,r6,r7,g0,g1,g2,g3,g4,g5,g6⟩:=hP8.cells;have s4:(W8.alloc (.cells #[.int .i64 x.f0,.int .i64 x.f1,.int .i64 x.f2,.int .i64 x.f3] 66)).cell? ⟨X,4,none⟩=some vC:=(World.cell?_of_block (w:=W8) (heap_alloc_old _ _ (aZd hP8.x))).trans r5)
              | (refine Kd.R_append_step k66 (w0:=W8) w.heap.size (by rfl) (.tmp 88) (.tmp 91) 26 66 (.agg #[.int .i64 0,.int .i64 0,.int .i64 0,.int .i64 0]) 32 rfl Try.underlying26 info66 rfl (by decide) (by omega) vC C x [.int .i64 x.f0,.int .i64 x.f1,.int .i64 x.f2,.int .i64 x.f3] (fun k=>X<k) (fun _=>False) rfl rfl (k66_mkM _ _ _ x) (fun _ hk=>hk.elim) (fun k hk=>by have:=aZd hP8.x;omega) hP8.rC (Below.refl _ _) hP8.rd.kept.1 (by rw [HCL.out];omega) ?_;intro v2 w9 hrow hb9 hg _;obtain ⟨A2,c2,rfl⟩:=Kd.R_slice hrow;have hx9:=(hg.block X (aZd hP8.x) (fun e=>by have:=hP8.rC.1 X e.symm;omega)).trans hP8.x;have k4:w9.cell? ⟨X,4,none⟩=some vC:=(by simp [World.cell?,hx9]);have z4:w9.frozen? ⟨X,4,none⟩=false:=(by simp [World.frozen?,hx9]);clear hx9))
             all_goals
              have hP9:=hP8.grown hlt hg hrow
              rw [show (C++[x]).length=C.length+1 by simp] at hP9
              go_wp2_with (fail)
              go_roundw
              case rel=>exact ⟨k+1,q2,_,C++[x],by omega,by go_num,by omega,hqb,by simp [HCL.out],hP9,by rw [show m - (k+1)=m - k - 1 from by omega];exact HE2.out⟩
              case measure=>simp [intOf];omega
           ·
            obtain rfl:k=m:=by omega
            have he:=HE.out
            rw [Nat.sub_self] at he
            have HE2:Hid (pEnd bs ⟨T,N,S,M,C,dep,loc⟩ q=F):=hid_ he
            clear HE he
            obtain ⟨c0,c1,z1⟩:=hP.rd.cells
            by_cases hrest:q<bs.length
            ·
             have he:=HE2.out
             unfold pEnd at he
             rw [if_pos hrest] at he
             have HE3:=hid_ he.symm
             clear HE2 he
             go_wp2_with (fail)
             go_region
             go_wp2_with ((with_reducible refine (aZ3 _ _ _).mono ?_);rintro e w' ⟨rfl,rfl⟩)
             exact ⟨rfl,(Fin.fail hP.rd rfl HE3.out).pdrew⟩
            ·
             have he:=HE2.out
             unfold pEnd at he
             rw [if_neg hrest] at he
             have HE3:=hid_ he
             clear HE2 he
             obtain ⟨A4,c4,rfl⟩:=Kd.R_slice hP.rC
             clear p1 p2 p3 p4 p5 p6 p7 f0 f1 f2 f3 f4 f5 f6
             go_wp2_with (fail)
             go_region
             go_upto_region 27 with (fail)
             clear c0 c1 z1 p0 n1 n2 n3 n4 dep1 dep2 dep3 dep4 loc1 loc2 loc3 loc4 T1 T2 T3 T4 N1 N2 N3 N4 S1 S2 S3 S4 M1 M2 M3 M4 hkl hkm hq hq2 hrest hk hlen hmf
             obtain ⟨p0,p1,p2,p3,p4,p5,p6,p7,f0,f1,f2,f3,f4,f5,f6⟩:=hP.cells
             clear p0 f0 f1 f2 f3 f4 f5 f6
             obtain ⟨r0,r1,r2,r3,r4,r5,r6,g0,g1,g2,g3,g4,g5,g6⟩:=hP.zcells
             go_wp2_with (fail)
             obtain ⟨d1,d2,d3⟩:=hP.done hlt
             rw [←HE3.out]
             dsimp only at d1 d2 d3
             change bodyPost _ _ _ _ _ (setZ wr (w.heap.size+1) (.slice AT T.length cT) (.slice AN N.length cN) (.slice AS S.length cS) (.slice AM M.length cM) (.slice A4 C.length c4) (.int .i64 dep) (.int .i64 loc)).drew
             generalize setZ wr (w.heap.size+1) (.slice AT T.length cT) (.slice AN N.length cN) (.slice AS S.length cS) (.slice AM M.length cM) (.slice A4 C.length c4) (.int .i64 dep) (.int .i64 loc)=V at d1 d2 d3 ⊢
             have d2':V.drew.heap[w.heap.size+1]?=some (.cells #[.slice AT T.length cT,.slice AN N.length cN,.slice AS S.length cS,.slice AM M.length cM,.slice A4 C.length c4,.int .i64 dep,.int .i64 loc] 28 (0,0)):=d2
             refine bodyPost_ret (results_cell_row (fn:=Try.f53) (p:=2) (ty:=28) rfl _ V.drew (w.heap.size+1) 28 #[.slice AT T.length cT,.slice AN N.length cN,.slice AS S.length cS,.slice AM M.length cM,.slice A4 C.length c4,.int .i64 dep,.int .i64 loc] (0,0) _ (by kernel_rfl) d2' Try.underlying28 rfl (by kernel_rfl)) (by kernel_rfl) ?_
             exact ⟨_,rfl,d3.drew,d1.drew⟩
theorem heap_int8:Kd.Heap (Kd.int .u8):=Kd.heap_int .u8
def IsDec (w:World) (bs:List Int) (e:Ending) (w':World):Prop :=
  match aZJ bs with
  | .ok (g,_)=>∃ v,e=.returned (.tuple #[v,.nilIface])∧IsPg w.heap.size g v w'∧Below w.heap.size w w'
  | .error (k,q)=>∃ F,e=.returned (.tuple #[.agg #[.slice none 0 0,.slice none 0 0,.slice none 0 0,.slice none 0 0,.slice none 0 0,.int .i64 0,.int .i64 0],.iface 95 (.pointer (some ⟨F,0,none⟩))])∧w.heap.size≤F∧w'.heap[F]?=some (.cells #[.int .i64 k,.int .i64 q,.string ⟨#[]⟩,.nilIface] 98 (0,0))∧Below w.heap.size w w'
theorem assert53 (v:Value) (w:World):(Instr.typeAssert (.iface 95 v) 20 95 true).run Try.prog w=.ok (.tuple #[v,.bool true]) w:=by
  simp [Instr.typeAssert,go_sem,run_underlying Try.underlying95]
theorem eZU (p q F:Nat) (older:List PanicEntry) (w:World) (hp:w.heap[p]?=some (.cells #[.slice none 0 0,.slice none 0 0,.slice none 0 0,.slice none 0 0,.slice none 0 0,.int .i64 0,.int .i64 0] 28 (0,0))) (hq:w.heap[q]?=some (.cells #[.nilIface] 33 (0,0))) (hpq:p≠q) :
 CallsD Try.prog 52 #[.pointer (some ⟨p,0,none⟩),.pointer (some ⟨q,0,none⟩)] (.panicking ({ v:=.iface 95 (.pointer (some ⟨F,0,none⟩)),recovered:=false } :: older)) w fun e u' w' =>
  e=.returned (.tuple #[])∧u'=.panicking ({ v:=.iface 95 (.pointer (some ⟨F,0,none⟩)),recovered:=true } :: older)∧w'=(setZ w p (.slice none 0 0) (.slice none 0 0) (.slice none 0 0) (.slice none 0 0) (.slice none 0 0) (.int .i64 0) (.int .i64 0)).setCell ⟨q,0,none⟩ (.iface 95 (.pointer (some ⟨F,0,none⟩))):=by
 have p0:w.cell? ⟨p,0,none⟩=some (.slice none 0 0):=by simp [World.cell?,hp]
 have p1:w.cell? ⟨p,1,none⟩=some (.slice none 0 0):=by simp [World.cell?,hp]
 have p2:w.cell? ⟨p,2,none⟩=some (.slice none 0 0):=by simp [World.cell?,hp]
 have p3:w.cell? ⟨p,3,none⟩=some (.slice none 0 0):=by simp [World.cell?,hp]
 have p4:w.cell? ⟨p,4,none⟩=some (.slice none 0 0):=by simp [World.cell?,hp]
 have p5:w.cell? ⟨p,5,none⟩=some (.int .i64 0):=by simp [World.cell?,hp]
 have p6:w.cell? ⟨p,6,none⟩=some (.int .i64 0):=by simp [World.cell?,hp]
 have z0:∀ i,w.frozen? ⟨p,i,none⟩=false:=fun i=>by simp [World.frozen?,hp]
 have q0:w.cell? ⟨q,0,none⟩=some .nilIface:=by simp [World.cell?,hq]
 have y0:w.frozen? ⟨q,0,none⟩=false:=by simp [World.frozen?,hq]
 refine callsD_of_wpS Try.func52 rfl fun c₀ cs hu=>?_
 apply wpS_seq
 apply wpS_region
 simp [wpOpsS,go_sem,recoverD,hu,Try.ntmps52,Exit.thenS]
 apply wpS_seq
 apply wpS_region
 simp [wpOpsS,go_sem,Exit.thenS]
 refine wpS_cond (t:=true) (by simp [Act.eval,Array.replicate]) ?_
 simp only [if_true]
 have hta:=assert53 (.pointer (some ⟨F,0,none⟩))
 refine wpS_of_wp ?_
 simp only [Array.replicate,List.replicate,sZa,sZb,sZc,List.append_toArray,List.cons_append,List.nil_append,Array.append_assoc]
 go_wp2_with (fail)
 simp [bodyPostS,results,Try.results52,setZ]
theorem iZj (p q:Addr) (w:World) :
    CallsD Try.prog 52 #[.pointer (some p),.pointer (some q)] .returning w fun e u' w'=>e=.returned (.tuple #[])∧u'=.returning∧w'=w:=by
  refine callsD_of_wpS Try.func52 rfl fun c₀ cs hu=>?_
  apply wpS_seq
  apply wpS_region
  simp [wpOpsS,go_sem,recoverD,hu,Try.ntmps52,Exit.thenS]
  apply wpS_seq
  apply wpS_region
  simp [wpOpsS,go_sem,Exit.thenS]
  refine wpS_cond (t:=false) (by simp [Act.eval,Array.replicate]) ?_
  simp only [Bool.false_eq_true,if_false]
  refine wpS_of_wp (wp_skip ?_)
  cases c₀
  simp_all [bodyPostS,results,Try.results52]
theorem load47 (w:World) (E:Nat) (ev:Value) (hE:w.cell? ⟨E,0,none⟩=some ev):(loadVar 33 ⟨E,0,none⟩).run Try.prog w=.ok ev w:=by
  simp [loadVar,run_underlying Try.underlying33,go_sem,hE]
theorem gZc (tmps:Array Value) (w:World) (P E:Nat) (cs:Array Value) (ev:Value) (h2:tmps.getD 2 undef=.pointer (some ⟨P,0,none⟩)) (h3:tmps.getD 3 undef=.pointer (some ⟨E,0,none⟩)) (hP:w.heap[P]?=some (.cells cs 28 (0,0))) (hcs:cs.size=7) (hE:w.cell? ⟨E,0,none⟩=some ev) :
    (results Try.f29 tmps).run Try.prog w=.ok (.tuple #[.agg cs,ev]) w:=by
  have hl:=run_loadVar_row (P:=Try.prog) w P 28 28 cs (0,0) _ hP Try.underlying28 rfl (by rw [hcs];kernel_rfl)
  have hm:=load47 w E ev hE
  have h2':tmps[2]?.getD undef=.pointer (some ⟨P,0,none⟩):=by simpa using h2
  have h3':tmps[3]?.getD undef=.pointer (some ⟨E,0,none⟩):=by simpa using h3
  simp [results,Try.results29,h2',h3',asAddr,hl,hm]
theorem cZ5 (W:World) (Z:Nat) (a b c d e f g:Value) (h:∃ x0 x1 x2 x3 x4 x5 x6,W.heap[Z]?=some (.cells #[x0,x1,x2,x3,x4,x5,x6] 28 (0,0))):(setZ W Z a b c d e f g).heap[Z]?=some (.cells #[a,b,c,d,e,f,g] 28 (0,0)):=by
  obtain ⟨x0,x1,x2,x3,x4,x5,x6,h⟩:=h
  unfold setZ
  simp [World.setCell,h,Array.getElem?_modify]
theorem cZe (W:World) (Z:Nat) (a b c d e f g:Value) (k:Nat) (hk:k≠Z):(setZ W Z a b c d e f g).heap[k]?=W.heap[k]?:=by
  unfold setZ
  rw [Below.heap_setCell _ _ _ _ (by simpa using hk),Below.heap_setCell _ _ _ _ (by simpa using hk),Below.heap_setCell _ _ _ _ (by simpa using hk),Below.heap_setCell _ _ _ _ (by simpa using hk),Below.heap_setCell _ _ _ _ (by simpa using hk),Below.heap_setCell _ _ _ _ (by simpa using hk),Below.heap_setCell _ _ _ _ (by simpa using hk)]
theorem stored {w W1:World} {R:Nat} {A:Option Addr} {c:Nat} {bs:List Int} {q:Int} {W0:World} (bel0:Below w.heap.size w W0) (hs0:W0.heap.size=w.heap.size+3) (hR:R=w.heap.size+2) (hr:Rd W0 W1 R A c bs q) (hp1:W1.heap[w.heap.size]?=some (.cells #[.slice none 0 0,.slice none 0 0,.slice none 0 0,.slice none 0 0,.slice none 0 0,.int .i64 0,.int .i64 0] 28 (0,0))) (hq1:W1.heap[w.heap.size+1]?=some (.cells #[.nilIface] 33 (0,0))) (a b d e f g h ev:Value) :
 (∀ k,k≠w.heap.size→k≠w.heap.size+1→((setZ W1 w.heap.size a b d e f g h).setCell ⟨w.heap.size+1,0,none⟩ ev).heap[k]?=W1.heap[k]?) ∧
 ((setZ W1 w.heap.size a b d e f g h).setCell ⟨w.heap.size+1,0,none⟩ ev).heap[w.heap.size]?=some (.cells #[a,b,d,e,f,g,h] 28 (0,0)) ∧
 ((setZ W1 w.heap.size a b d e f g h).setCell ⟨w.heap.size+1,0,none⟩ ev).cell? ⟨w.heap.size+1,0,none⟩=some ev ∧
 Below w.heap.size w ((setZ W1 w.heap.size a b d e f g h).setCell ⟨w.heap.size+1,0,none⟩ ev):=by
 have e2:∀ k,k≠w.heap.size→k≠w.heap.size+1→((setZ W1 w.heap.size a b d e f g h).setCell ⟨w.heap.size+1,0,none⟩ ev).heap[k]?=W1.heap[k]?:=fun k h1 h2=>by
  rw [Below.heap_setCell _ _ _ _ (by simpa using h2),cZe _ _ _ _ _ _ _ _ _ _ h1]
 have e3:(setZ W1 w.heap.size a b d e f g h).heap[w.heap.size+1]?=some (.cells #[.nilIface] 33 (0,0)):=(cZe _ _ _ _ _ _ _ _ _ _ (by omega)).trans hq1
 refine ⟨e2,?_,?_,?_⟩
 ·
  rw [Below.heap_setCell _ _ _ _ (by simp)]
  exact cZ5 _ _ _ _ _ _ _ _ _ ⟨_,_,_,_,_,_,_,hp1⟩
 · simp [World.cell?,World.setCell,e3,Array.getElem?_modify]
 ·
  have hb:Below w.heap.size w W1:=bel0.trans (hr.below.mono (by omega))
  unfold setZ
  exact (((((((hb.setCell (by simp) _).setCell (by simp) _).setCell (by simp) _).setCell (by simp) _).setCell (by simp) _).setCell (by simp) _).setCell (by simp) _).setCell (by simp) _
theorem iZh (w:World) (A:Option Addr) (c:Nat) (bs:List Int) (hC:Kd.C (Kd.int .u8) w A bs.length bs) (hc:bs.length≤c) (G:Good bs) :
 Calls Try.prog 29 #[.slice A bs.length c] w (IsDec w bs):=by
 have hmf:∀ (fn:Fn) (first cap:Array Value) (w:World),(Instr.makeFunc fn first cap).run Try.prog w=.ok (.func fn first cap) w:=fun _ _ _ _=>rfl
 generalize hW0:((w.alloc (.cells #[.slice none 0 0,.slice none 0 0,.slice none 0 0,.slice none 0 0,.slice none 0 0,.int .i64 0,.int .i64 0] 28)).alloc (.cells #[.nilIface] 33)).alloc (.cells #[.slice A bs.length c,.int .i64 0] 125)=W0
 have HW0:=hid_ hW0
 have bel0:Below w.heap.size w W0:=by rw [←hW0];exact aZa (aZa (aZa (Below.refl _ _) _) _) _
 have hs0:W0.heap.size=w.heap.size+3:=by rw [←hW0];simp
 have hp0:W0.heap[w.heap.size]?=some (.cells #[.slice none 0 0,.slice none 0 0,.slice none 0 0,.slice none 0 0,.slice none 0 0,.int .i64 0,.int .i64 0] 28 (0,0)):=by
  rw [←hW0,heap_alloc_old _ _ (by simp;omega),heap_alloc_old _ _ (by simp)];exact heap_alloc_new w _
 have hq0:W0.heap[w.heap.size+1]?=some (.cells #[.nilIface] 33 (0,0)):=by
  rw [←hW0,heap_alloc_old _ _ (by simp)]
  have:=heap_alloc_new (w.alloc (.cells #[.slice none 0 0,.slice none 0 0,.slice none 0 0,.slice none 0 0,.slice none 0 0,.int .i64 0,.int .i64 0] 28)) (.cells #[.nilIface] 33)
  simpa using this
 have hr0:W0.heap[w.heap.size+2]?=some (.cells #[.slice A bs.length c,.int .i64 0] 125 (0,0)):=by
  rw [←hW0]
  have:=heap_alloc_new ((w.alloc (.cells #[.slice none 0 0,.slice none 0 0,.slice none 0 0,.slice none 0 0,.slice none 0 0,.int .i64 0,.int .i64 0] 28)).alloc (.cells #[.nilIface] 33)) (.cells #[.slice A bs.length c,.int .i64 0] 125)
  simpa using this
 have hrd:Rd W0 W0 (w.heap.size+2) A c bs 0 :=
  ⟨Below.refl _ _,Kept.refl _ _,hr0,fun W hk=>Kd.C_kept_came heap_int8 hC bel0 (fun k hk=>by omega) W hk⟩
 have HP:=gZW W0 (w.heap.size+2) A c bs hrd G hc
 clear hW0
 unfold IsDec
 cases hpr:aZJ bs with
 | error f =>
  obtain ⟨k,q⟩:=f
  rw [hpr] at HP
  dsimp only
  go_enter_defers Try.func29,Try.ntmps29
  go_wp2_with (fail)
  rw [HW0.out]
  refine HP.mono ?_
  rintro e W1 ⟨F,p1,rfl,hF,hFc,hr⟩
  have hp1:=(hr.kept.2 w.heap.size (by omega) (by omega)).trans hp0
  have hq1:=(hr.kept.2 (w.heap.size+1) (by omega) (by omega)).trans hq0
  have hsz:=hr.kept.1
  clear hrd hpr
  go_wp2_with (fail)
  refine leaves_cons (f:=52) (args:=#[.pointer (some ⟨w.heap.size,0,none⟩),.pointer (some ⟨w.heap.size+1,0,none⟩)]) (by simp) (by simp [go_sem]) ?_
  refine (eZU w.heap.size (w.heap.size+1) F [] _ hp1 hq1 (by omega)).mono ?_
  rintro e u' w'' ⟨rfl,rfl,rfl⟩
  obtain ⟨t1,t2,t3,t4⟩:=stored bel0 hs0 rfl hr hp1 hq1 (.slice none 0 0) (.slice none 0 0) (.slice none 0 0) (.slice none 0 0) (.slice none 0 0) (.int .i64 0) (.int .i64 0) (.iface 95 (.pointer (some ⟨F,0,none⟩)))
  exact ⟨_,gZc _ _ w.heap.size (w.heap.size+1) _ _ rfl rfl t2 rfl t3,F,rfl,by omega,(t1 F (by omega) (by omega)).trans hFc,t4⟩
 | ok gq =>
  obtain ⟨g,q⟩:=gq
  rw [hpr] at HP
  dsimp only
  go_enter_defers Try.func29,Try.ntmps29
  go_wp2_with (fail)
  rw [HW0.out]
  refine HP.mono ?_
  rintro e W1 ⟨v,rfl,⟨vT,vN,vS,vM,vC,rfl,hT,hN,hS,hM,hC5⟩,hr⟩
  obtain ⟨A1,c1,rfl⟩:=Kd.R_slice hT
  obtain ⟨A2,c2,rfl⟩:=Kd.R_slice hN
  obtain ⟨A3,c3,rfl⟩:=Kd.R_slice hS
  obtain ⟨A4,c4,rfl⟩:=Kd.R_slice hM
  obtain ⟨A5,c5,rfl⟩:=Kd.R_slice hC5
  have hp1:=(hr.kept.2 w.heap.size (by omega) (by omega)).trans hp0
  have hq1:=(hr.kept.2 (w.heap.size+1) (by omega) (by omega)).trans hq0
  have hsz:=hr.kept.1
  clear hrd hpr
  have p0:W1.cell? ⟨w.heap.size,0,none⟩=some (.slice none 0 0):=by simp [World.cell?,hp1]
  have p1:W1.cell? ⟨w.heap.size,1,none⟩=some (.slice none 0 0):=by simp [World.cell?,hp1]
  have p2:W1.cell? ⟨w.heap.size,2,none⟩=some (.slice none 0 0):=by simp [World.cell?,hp1]
  have p3:W1.cell? ⟨w.heap.size,3,none⟩=some (.slice none 0 0):=by simp [World.cell?,hp1]
  have p4:W1.cell? ⟨w.heap.size,4,none⟩=some (.slice none 0 0):=by simp [World.cell?,hp1]
  have p5:W1.cell? ⟨w.heap.size,5,none⟩=some (.int .i64 0):=by simp [World.cell?,hp1]
  have p6:W1.cell? ⟨w.heap.size,6,none⟩=some (.int .i64 0):=by simp [World.cell?,hp1]
  have z0:∀ i,W1.frozen? ⟨w.heap.size,i,none⟩=false:=fun i=>by simp [World.frozen?,hp1]
  have q0:W1.cell? ⟨w.heap.size+1,0,none⟩=some .nilIface:=by simp [World.cell?,hq1]
  have y0:W1.frozen? ⟨w.heap.size+1,0,none⟩=false:=by simp [World.frozen?,hq1]
  go_wp2_with (fail)
  refine leaves_cons (f:=52) (args:=#[.pointer (some ⟨w.heap.size,0,none⟩),.pointer (some ⟨w.heap.size+1,0,none⟩)]) (by simp) (by simp [go_sem]) ?_
  refine (iZj ⟨w.heap.size,0,none⟩ ⟨w.heap.size+1,0,none⟩ _).mono ?_
  rintro e u' w'' ⟨rfl,rfl,rfl⟩
  obtain ⟨t1,t2,t3,t4⟩:=stored bel0 hs0 rfl hr hp1 hq1 (.slice A1 g.T.length c1) (.slice A2 g.N.length c2) (.slice A3 g.S.length c3) (.slice A4 g.M.length c4) (.slice A5 g.C.length c5) (.int .i64 g.dep) (.int .i64 g.loc) .nilIface
  have far:∀ {α:Type} {d:Kd α} {t:Nat} {v:Value} {l:List α},d.R t W1 W0.heap.size (fun _=>True) v l→d.R t ((setZ W1 w.heap.size (.slice A1 g.T.length c1) (.slice A2 g.N.length c2) (.slice A3 g.S.length c3) (.slice A4 g.M.length c4) (.slice A5 g.C.length c5) (.int .i64 g.dep) (.int .i64 g.loc)).setCell ⟨w.heap.size+1,0,none⟩ .nilIface) w.heap.size (fun _=>True) v l:=fun hv =>
   Kd.R_mono (Kd.R_lower (Kd.R_step (Kd.R_bound hv) (fun k hk _=>t1 k (by have:=hk.2.1;omega) (by have:=hk.2.1;omega))) (by omega)) (fun _ _=>trivial)
  exact ⟨_,gZc _ _ w.heap.size (w.heap.size+1) _ _ rfl rfl t2 rfl t3,_,rfl,⟨_,_,_,_,_,rfl,far hT,far hN,far hS,far hM,far hC5⟩,t4⟩
end Go.Proofs.Ytbnplhmmbnmagaa.D
