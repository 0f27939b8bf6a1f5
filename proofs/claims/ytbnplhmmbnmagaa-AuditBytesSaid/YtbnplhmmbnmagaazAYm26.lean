/- The reference's reader: sets (printed by gen_k6.py). -/
import Derived.Test.YtbnplhmmbnmagaazAYm25
set_option maxHeartbeats 4000000
set_option maxRecDepth 100000
set_option linter.unusedVariables false
set_option linter.unusedSimpArgs false
namespace Go.Proofs.Ytbnplhmmbnmagaa.D
open Go.RowKit Go.Proofs.YtbnplhmmbnmagaaW.PrintWords Go.Proofs.YtbnplhmmbnmagaaW.PrintLast Go.Proofs.YtbnplhmmbnmagaaW.PrintMore Go.Proofs.Ytbnplhmmbnmagaa.All
set_option linter.unusedSectionVars false
def fZm (bs:List Int) (nT nN:Nat) (p:Int):Except (Int × Int) ((List (List ByteArray) × List (List Int)) × Int) :=
  match aZO [] (bZf bs) (cmpL cmpS) bs p 0 (4096 - nT - nN) with
  | .error f=>.error f
  | .ok (S,q)=>match aZO [] (bZr bs) (cmpL cmpI) bs q 0 (4096 - nT - nN - S.length) with
    | .error f=>.error f
    | .ok (M,q)=>.ok ((S,M),q)
theorem Stk.then {α:Type} {bs:List Int} {p k b lo hi x p2 k2 b2:Int} (hs:Stk p k b (aZm bs p lo hi) x p2 k2 b2) (h:k=0→0≤p∧p≤bs.length) {y:α} {p3 k3 b3:Int} {r:Except (Int × Int) (α × Int)} {L:Int→Int→Except (Int × Int) (α × Int)} (hr:r=match aZm bs p lo hi with | .error f=>.error f | .ok (n,q)=>L n q) (h2:Stk p2 k2 b2 (L x p2) y p3 k3 b3):Stk p k b r y p3 k3 b3:=by
 refine ⟨fun hk=>?_,fun hk=>?_⟩
 ·
  have h1:=hs.1 hk
  subst hr
  cases hc:aZm bs p lo hi with
  | error f =>
   obtain ⟨kk,q⟩:=f
   rw [hc] at h1
   obtain ⟨rfl,rfl⟩:=h1
   have h3:=(aZu bs lo hi p (h hk).1 (h hk).2).1 _ _ hc
   obtain ⟨rfl,rfl,rfl⟩:=h2.2 (by omega)
   exact ⟨rfl,rfl⟩
  | ok z =>
   obtain ⟨z,q⟩:=z
   rw [hc] at h1
   obtain ⟨rfl,rfl,hk2,rfl⟩:=h1
   exact h2.1 hk2
 ·
  obtain ⟨rfl,rfl,rfl⟩:=hs.2 hk
  exact h2.2 hk
structure StQr (w0 w W:World) (g G:Nat) (bs:List Int) (p k b:Int) (vT vN vS vM vC d l:Value) (S:List (List ByteArray)) (M:List (List Int)):Prop where
  rd:IsS136 w0 W g bs p k b
  below:Below w0.heap.size w0 W
  keep:KeepBut w W g (some G)
  blk:W.heap[G]?=some (.cells #[vT,vN,vS,vM,vC,d,l] 28 (0,0))
  rS:(Kd.slice 9 Kd.string).R 22 W w.heap.size (fun k=>w.heap.size≤k) vS S
  rM:(Kd.slice 3 (Kd.int .i64)).R 23 W w.heap.size (fun k=>w.heap.size≤k) vM M
theorem aZL {W:World} {B:Nat} {a b c d e f g:Value} (h:W.heap[B]?=some (.cells #[a,b,c,d,e,f,g] 28 (0,0))):W.cell? ⟨B,0,none⟩=some a∧W.cell? ⟨B,1,none⟩=some b∧W.cell? ⟨B,2,none⟩=some c∧W.cell? ⟨B,3,none⟩=some d∧W.cell? ⟨B,4,none⟩=some e∧W.cell? ⟨B,5,none⟩=some f∧W.cell? ⟨B,6,none⟩=some g∧∀ i,W.frozen? ⟨B,i,none⟩=false:=by
  obtain ⟨h0,h1,h2,h3,h4,h5,h6⟩:=boxed h
  exact ⟨h0,h1,h2,h3,h4,h5,h6,fun i=>by simp [World.frozen?,h]⟩
section
variable {w0 w W W2:World} {g G:Nat} {bs:List Int} {p k b p2 k2 b2:Int} {vT vN vS vM vC d l:Value} {S:List (List ByteArray)} {M:List (List Int)}
theorem StQr.call (h:StQr w0 w W g G bs p k b vT vN vS vM vC d l S M) (hg:g<w.heap.size) (hG:G<w.heap.size) (hne:g≠G) (hI:IsS136 w0 W2 g bs p2 k2 b2) (hB:Below w0.heap.size w0 W2) (hK:KeepBut W W2 g none):StQr w0 w W2 g G bs p2 k2 b2 vT vN vS vM vC d l S M :=
  ⟨hI, hB, ⟨Nat.le_trans h.keep.1 hK.1, fun j hj h1 h2 => (hK.2 j (by have := h.keep.1; omega) h1 (by simp)).trans (h.keep.2 j hj h1 h2)⟩, (hK.2 G (aZd h.blk) (fun e => hne e.symm) (by simp)).trans h.blk,
    Kd.R_keep h.rS hK (fun j hj=>by omega),Kd.R_keep h.rM hK (fun j hj=>by omega)⟩
theorem StQr.drew (h:StQr w0 w W g G bs p k b vT vN vS vM vC d l S M):StQr w0 w W.drew g G bs p k b vT vN vS vM vC d l S M:=⟨h.rd.drew,h.below.drew,h.keep,h.blk,Kd.R_drew h.rS,Kd.R_drew h.rM⟩
theorem StQr.drewN (h:StQr w0 w W g G bs p k b vT vN vS vM vC d l S M) (n:Nat):StQr w0 w (W.drewN n) g G bs p k b vT vN vS vM vC d l S M:=⟨h.rd.drewN n,aZa h.below n,h.keep,h.blk,Kd.R_drewN h.rS n,Kd.R_drewN h.rM n⟩
theorem StQr.addS (h:StQr w0 w W g G bs p k b vT vN vS vM vC d l S M) (hg:g<w.heap.size) (hG:G<w.heap.size) (hne:g≠G) (hw:w0.heap.size≤w.heap.size) (hGw:w0.heap.size≤G) {v2:Value} {S2:List (List ByteArray)} (hr:(Kd.slice 9 Kd.string).R 22 W2 w.heap.size (fun k=>w.heap.size≤k) v2 S2) (hgr:W.grownBy W2 vS.ownBlock) :
 W2.heap[G]?=some (.cells #[vT,vN,vS,vM,vC,d,l] 28 (0,0))∧StQr w0 w (W2.setCell ⟨G,2,none⟩ v2) g G bs p k b vT vN v2 vM vC d l S2 M:=by
 have hb:=Kd.R_base h.rS
 have hGb:W2.heap[G]?=some (.cells #[vT,vN,vS,vM,vC,d,l] 28 (0,0)):=(hgr.block G (aZd h.blk) (fun e=>by have:=hb G e.symm;omega)).trans h.blk
 have hgn:some g≠vS.ownBlock:=fun e=>by have:=hb g e.symm;omega
 refine ⟨hGb,⟨(h.rd.grown hgr hgn).far hne _,(h.below.grown hgr (by have:=h.keep.1;omega) (fun j hj=>by have:=hb j hj;omega)).setCell (show w0.heap.size≤G from hGw) _,?_,?_,?_,?_⟩⟩
 ·
  refine ⟨by have:=hgr.size;have:=h.keep.1;simp;omega,fun j hj h1 h2=>?_⟩
  rw [Below.heap_setCell _ _ _ _ (fun e=>h2 (by rw [e])),hgr.block j (by have:=h.keep.1;omega) (fun e=>by have:=hb j e.symm;omega)]
  exact h.keep.2 j hj h1 h2
 · simp [World.setCell,hGb,Array.getElem?_modify]
 · exact Kd.R_step hr (fun j hj _=>Below.heap_setCell _ _ _ _ (by show j≠G;omega))
 · refine Kd.R_step (w:=W2) (Kd.R_over' h.rM (Kd.R_typed h.rS) (by decide) hgr) (fun j hj _=>Below.heap_setCell _ _ _ _ (by show j≠G;omega))
theorem StQr.addM (h:StQr w0 w W g G bs p k b vT vN vS vM vC d l S M) (hg:g<w.heap.size) (hG:G<w.heap.size) (hne:g≠G) (hw:w0.heap.size≤w.heap.size) (hGw:w0.heap.size≤G) {v2:Value} {M2:List (List Int)} (hr:(Kd.slice 3 (Kd.int .i64)).R 23 W2 w.heap.size (fun k=>w.heap.size≤k) v2 M2) (hgr:W.grownBy W2 vM.ownBlock) :
 W2.heap[G]?=some (.cells #[vT,vN,vS,vM,vC,d,l] 28 (0,0))∧StQr w0 w (W2.setCell ⟨G,3,none⟩ v2) g G bs p k b vT vN vS v2 vC d l S M2:=by
 have hb:=Kd.R_base h.rM
 have hGb:W2.heap[G]?=some (.cells #[vT,vN,vS,vM,vC,d,l] 28 (0,0)):=(hgr.block G (aZd h.blk) (fun e=>by have:=hb G e.symm;omega)).trans h.blk
 have hgn:some g≠vM.ownBlock:=fun e=>by have:=hb g e.symm;omega
 refine ⟨hGb,⟨(h.rd.grown hgr hgn).far hne _,(h.below.grown hgr (by have:=h.keep.1;omega) (fun j hj=>by have:=hb j hj;omega)).setCell (show w0.heap.size≤G from hGw) _,?_,?_,?_,?_⟩⟩
 ·
  refine ⟨by have:=hgr.size;have:=h.keep.1;simp;omega,fun j hj h1 h2=>?_⟩
  rw [Below.heap_setCell _ _ _ _ (fun e=>h2 (by rw [e])),hgr.block j (by have:=h.keep.1;omega) (fun e=>by have:=hb j e.symm;omega)]
  exact h.keep.2 j hj h1 h2
 · simp [World.setCell,hGb,Array.getElem?_modify]
 · refine Kd.R_step (w:=W2) (Kd.R_over' h.rS (Kd.R_typed h.rM) (by decide) hgr) (fun j hj _=>Below.heap_setCell _ _ _ _ (by show j≠G;omega))
 · exact Kd.R_step hr (fun j hj _=>Below.heap_setCell _ _ _ _ (by show j≠G;omega))
end
structure Far {α:Type} (p k b:Int) (bs:List Int) (n j:Nat) (F:Except (Int × Int) (List α × Int)) (L:Nat→Int→List α→Except (Int × Int) (List α × Int)) (acc:List α) (p2 k2 b2:Int):Prop where
  le:j≤n
  len:acc.length=j
  good:k2=0→k=0∧0≤p2∧p2≤bs.length∧b2=b∧L (n - j) p2 acc=F
  bad:k2≠0→(k=0∧F=.error (k2,b2))∨(k≠0∧p2=p∧k2=k∧b2=b)
theorem Far.stk {α:Type} {p k b:Int} {bs:List Int} {n j:Nat} {F:Except (Int × Int) (List α × Int)} {z:α} {one:Int→Except (Int × Int) (α × Int)} {cmp:α→α→Int} {acc:List α} {p2 k2 b2:Int} (h:Far p k b bs n j F (aZr z one cmp) acc p2 k2 b2) (he:¬(j<n∧k2=0)):Stk p k b F acc p2 k2 b2:=by
 refine ⟨fun hk=>?_,fun hk=>?_⟩
 ·
  by_cases hk2:k2=0
  ·
   obtain ⟨_,_,_,e,hL⟩:=h.good hk2
   have hj:j=n:=by
    have:=h.le
    by_cases hjn:j<n
    · exact absurd ⟨hjn,hk2⟩ he
    · omega
   rw [hj,Nat.sub_self] at hL
   rw [←hL]
   exact ⟨rfl,rfl,hk2,e⟩
  ·
   rcases h.bad hk2 with ⟨_,e⟩ | ⟨e,_⟩
   · rw [e];exact ⟨rfl,rfl⟩
   · exact absurd hk e
 ·
  by_cases hk2:k2=0
  · exact absurd (h.good hk2).1 hk
  ·
   rcases h.bad hk2 with ⟨e,_⟩ | ⟨_,e⟩
   · exact absurd e hk
   · exact e
theorem eZf {bs:List Int} {nT nN n:Nat} {p k b pS kS bS p2 k2 b2:Int} {S:List (List ByteArray)} {M:List (List Int)} (h1:Stk p k b (aZO [] (bZf bs) (cmpL cmpS) bs p 0 (4096 - nT - nN)) S pS kS bS) (h0:k=0→0≤p∧p≤bs.length) (hl:kS=0→S.length=n)
 (h2:Stk pS kS bS (aZO [] (bZr bs) (cmpL cmpI) bs pS 0 (4096 - nT - nN - n)) M p2 k2 b2):Stk p k b (fZm bs nT nN p) (S,M) p2 k2 b2:=by
 refine ⟨fun hk=>?_,fun hk=>?_⟩
 ·
  have g1:=h1.1 hk
  unfold fZm
  cases hc:aZO [] (bZf bs) (cmpL cmpS) bs p 0 (4096 - nT - nN) with
  | error f =>
   obtain ⟨kk,q⟩:=f
   rw [hc] at g1
   obtain ⟨rfl,rfl⟩:=g1
   have ht:=(bZp [] (cmpL cmpS) (cZb bs) 0 (4096 - nT - nN) p (h0 hk).1 (h0 hk).2).1 _ _ hc
   obtain ⟨rfl,rfl,rfl⟩:=h2.2 (by omega)
   exact ⟨rfl,rfl⟩
  | ok y =>
   obtain ⟨y,q⟩:=y
   rw [hc] at g1
   obtain ⟨rfl,rfl,hkS,rfl⟩:=g1
   have g2:=h2.1 hkS
   dsimp only
   rw [hl hkS]
   cases hc2:aZO [] (bZr bs) (cmpL cmpI) bs pS 0 (4096 - nT - nN - n) with
   | error f =>
    obtain ⟨kk,q⟩:=f
    rw [hc2] at g2
    exact g2
   | ok z =>
    obtain ⟨z,q⟩:=z
    rw [hc2] at g2
    obtain ⟨rfl,e2,e3,e4⟩:=g2
    exact ⟨rfl,e2,e3,e4⟩
 ·
  obtain ⟨rfl,rfl,rfl⟩:=h1.2 hk
  exact h2.2 hk
theorem rSets (bs:List Int) (hb:bZ3 bs) (hlen:bs.length≤200000000000000) (w0 w:World) (g G:Nat) (p k b:Int) (hI:IsS136 w0 w g bs p k b) (hB:Below w0.heap.size w0 w) (h:k=0→0≤p∧p≤bs.length) (hG:G<w.heap.size) (hne:g≠G) (hGw:w0.heap.size≤G)
 (AT AN:Option Addr) (cT cN nT nN:Nat) (vC d l:Value) (hnn:nT≤5000∧nN≤5000) (hn:k=0→nT+nN≤4096) (hblk:w.heap[G]?=some (.cells #[.slice AT nT cT,.slice AN nN cN,.slice none 0 0,.slice none 0 0,vC,d,l] 28 (0,0))) :
 Calls Try.prog 64 #[.pointer (some ⟨g,0,none⟩),.pointer (some ⟨G,0,none⟩)] w fun e w'=>e=.returned (.tuple #[])∧∃ vS vM S M p2 k2 b2,StQr w0 w w' g G bs p2 k2 b2 (.slice AT nT cT) (.slice AN nN cN) vS vM vC d l S M∧Stk p k b (fZm bs nT nN p) (S,M) p2 k2 b2:=by
 have hgl:=hI.lt
 have hw:=hB.size
 have hS0:StQr w0 w w g G bs p k b (.slice AT nT cT) (.slice AN nN cN) (.slice none 0 0) (.slice none 0 0) vC d l [] [] :=
  ⟨hI,hB,⟨Nat.le_refl _,fun _ _ _ _=>rfl⟩,hblk,Kd.R_nil _ _ _ _ _,Kd.R_nil _ _ _ _ _⟩
 clear hI hB hblk
 have e1:wrap64 (4096 - (nT:Int))=4096 - nT:=bZ4 _ (by omega) (by omega)
 have e2:wrap64 (4096 - (nT:Int) - (nN:Int))=4096 - nT - nN:=bZ4 _ (by omega) (by omega)
 obtain ⟨q0,q1,q2,q3,q4,q5,q6,qz⟩:=aZL hS0.blk
 go_enter Try.func64,Try.ntmps64
 go_wp2_with (fail)
 go_region
 clear e1 e2 q0 q1 q2 q3 q4 q5 q6 qz
 have hS1:=hS0.drew
 clear hS0
 go_wp2_with (fail)
 refine (bZ1 bs hb hlen w0 w.drew g p k b hS1.rd hS1.below h 0 (4096 - (nT:Int) - (nN:Int))).mono ?_
 rintro e w1 ⟨x0,p1,k1,b1,rfl,hI1,hB1,hK1,hs1,hz1⟩
 have hS2:=hS1.call hgl hG hne hI1 hB1 hK1
 clear hS1 hI1 hB1 hK1
 have hx0:0≤x0∧x0≤4096:=by
  by_cases hk1:k1=0
  ·
   obtain ⟨_,_,_,a1,a2,_⟩:=hs1.got h hk1
   omega
  · rw [hz1 hk1];omega
 obtain ⟨n,rfl⟩:=Int.eq_ofNat_of_zero_le hx0.1
 have hp1:k1=0→0≤p1∧p1≤bs.length:=fun hk1=>by
  obtain ⟨_,_,_,_,_,a1,a2⟩:=hs1.got h hk1
  have:=(hs1.got h hk1).1
  have:=h this
  omega
 generalize hF:aZr [] (bZf bs) (cmpL cmpS) n p1 []=F1
 have HF1:=hid_ hF;clear hF
 have hfar0:Far p1 k1 b1 bs n 0 F1 (aZr [] (bZf bs) (cmpL cmpS)) [] p1 k1 b1:=⟨Nat.zero_le _,rfl,fun hk=>⟨hk,(hp1 hk).1,(hp1 hk).2,rfl,HF1.out⟩,fun hk=>.inr ⟨hk,rfl,rfl,rfl⟩⟩
 go_wp2_with (fail)
 go_loopw [6] (fun i wr=>∃ (j:Nat) (v:Value) (acc:List (List ByteArray)) (p2 k2 b2:Int),i=.int .i64 j∧StQr w0 w wr g G bs p2 k2 b2 (.slice AT nT cT) (.slice AN nN cN) v (.slice none 0 0) vC d l acc []∧Far p1 k1 b1 bs n j F1 (aZr [] (bZf bs) (cmpL cmpS)) acc p2 k2 b2) (fun i _=>n - (intOf i).toNat)
 case atStart=>exact ⟨0,_,[],p1,k1,b1,rfl,hS2,hfar0⟩
 case round =>
  clear hS2 hfar0
  obtain ⟨j,v,acc,p2,k2,b2,rfl,hS,hfar⟩:=hrel
  have hle:=hfar.le
  obtain ⟨A,c,a0,a1,a2,a3,az,hc,hC⟩:=aZV hS.rd
  clear a0 a3 az hc hC
  by_cases hgo:j<n∧k2=0
  ·
   obtain ⟨hjn,rfl⟩:=hgo
   obtain ⟨hkb,hp0,hp1,hbb,hL⟩:=hfar.good rfl
   have d0:(j:Int)<(n:Int):=by omega
   go_wp2_with (fail)
   refine (bZ1 bs hb hlen w0 wr g p2 0 b2 hS.rd hS.below (fun _=>⟨hp0,hp1⟩) 1 1000).mono ?_
   rintro e w2 ⟨y0,p3,k3,b3,rfl,hI3,hB3,hK3,hs3,hz3⟩
   have hQ3:=hS.call hgl hG hne hI3 hB3 hK3
   have hy:0≤y0∧y0≤1000:=by
    by_cases hk3:k3=0
    ·
     obtain ⟨_,_,_,z1,z2,_⟩:=hs3.got (fun _=>⟨hp0,hp1⟩) hk3
     omega
    · rw [hz3 hk3];omega
   obtain ⟨y,rfl⟩:=Int.eq_ofNat_of_zero_le hy.1
   have hp3:k3=0→0≤p3∧p3≤bs.length:=fun hk3=>by
    obtain ⟨_,_,_,_,_,z1,z2⟩:=hs3.got (fun _=>⟨hp0,hp1⟩) hk3
    omega
   clear a1 a2 hI3 hB3
   go_wp2_with (fail)
   refine (rTexts bs hb hlen w0 w2 g p3 k3 b3 hQ3.rd hQ3.below hp3 y (by omega)).mono ?_
   rintro e w4 ⟨vx,x,p4,k4,b4,rfl,hx,hI4,hB4,hK4,hs4⟩
   have hQ4:=hQ3.call hgl hG hne hI4 hB4 hK4
   have hst:Stk p2 0 b2 (bZf bs p2) x p4 k4 b4:=hs3.then (fun _=>⟨hp0,hp1⟩) (L:=fun n q=>aZr ByteArray.empty (bZi bs) cmpS n.toNat q []) rfl hs4
   have hsz2:wr.heap.size≤w2.heap.size:=hK3.1
   have hsz4:w2.heap.size≤w4.heap.size:=hK4.1
   have hszr:=hS.keep.1
   have hold:=Kd.R_lt hS.rS
   have hxM:=Kd.R_mono (Kd.R_lower (Kd.R_bound hx) (show w.heap.size≤w2.heap.size by omega)) (ok':=fun k=>wr.heap.size≤k) (fun _ hk=>by have:=hk.2.1;omega)
   clear hQ3 hs3 hs4 hz3 hI4 hB4 hx hp3
   obtain ⟨Ax,cx,rfl,hcx,hCx⟩:=Kd.R_reads hxM
   have hl5:(acc.length+1)*24≤140737488355328:=by have:=hfar.len;omega
   obtain ⟨A,c,a0,a1,a2,a3,az,hc,hC⟩:=aZV hQ4.rd
   obtain ⟨q0,q1,q2,q3,q4,q5,q6,qz⟩:=aZL hQ4.blk
   clear a0 a1 a3 az hc hC q0 q1 q3 q4 q5 q6
   rw [show n - j=(n - j - 1)+1 by omega] at hL
   unfold aZr at hL
   cases ht:bZf bs p2 with
   | error f =>
    obtain ⟨kk,q⟩:=f
    rw [ht] at hst hL
    obtain ⟨e1,e2⟩:=hst.1 rfl
    subst e1 e2
    have h200:=(cZb bs p2 hp0 hp1).1 _ _ ht
    have hk4:(k4 == 0)=false:=by rw [beq_eq_false_iff_ne];omega
    have hfar2:Far p1 k1 b1 bs n (j+1) F1 (aZr [] (bZf bs) (cmpL cmpS)) (acc++[x]) p4 k4 b4:=⟨by omega,by rw [List.length_append,hfar.len];rfl,fun h=>by omega,fun _=>.inl ⟨hkb,hL.symm⟩⟩
    clear hL ht hst
    by_cases hj:0<j
    ·
     have d1:decide ((0:Int)<(j:Int))=true:=decide_eq_true (by omega)
     have d2:decide (0<j)=true:=decide_eq_true hj
     clear hj
     go_wp2_with (((with_reducible refine aZh (b:=.append) (xs:=#[.tmp 76,.tmp 78]) rfl ?_);at_builtin;refine Kd.R_append (Kd.slice 9 Kd.string) (w0:=w4) w.heap.size rfl (.tmp 76) (.tmp 78) 24 22 (.slice none 0 0) 24 rfl Try.underlying24 info22 rfl (by decide) (by omega) v acc x [.slice Ax x.length cx] (fun k=>w.heap.size≤k) (fun k=>wr.heap.size≤k) rfl rfl (Kd.M_row hxM) (fun q hq=>⟨by omega,fun e=>by have:=hold q e.symm;omega⟩) (fun q hq=>by (have hq2:w4.heap.size≤q:=hq);omega) hQ4.rS (Below.refl _ _) (show w.heap.size≤w4.heap.size by omega) hl5 ?_;intro out2 w6 hrow6 hb6 hg6 _;obtain ⟨A6,c6,rfl⟩:=Kd.R_slice hrow6;obtain ⟨hG6,hQ6⟩:=hQ4.addS hgl hG hne hw hGw hrow6 hg6;(rw [show (acc++[x]).length=acc.length+1 by simp] at hQ6);obtain ⟨r0,r1,r2,r3,r4,r5,r6,rz⟩:=aZL hG6))
     go_roundw
     case rel=>exact ⟨j+1,_,_,p4,k4,b4,by go_num,hQ6,hfar2⟩
     case measure=>simp [intOf];omega
    ·
     have d1:decide ((0:Int)<(j:Int))=false:=decide_eq_false (by omega)
     have d2:decide (0<j)=false:=decide_eq_false hj
     clear hj
     go_wp2_with (((with_reducible refine aZh (b:=.append) (xs:=#[.tmp 76,.tmp 78]) rfl ?_);at_builtin;refine Kd.R_append (Kd.slice 9 Kd.string) (w0:=w4) w.heap.size rfl (.tmp 76) (.tmp 78) 24 22 (.slice none 0 0) 24 rfl Try.underlying24 info22 rfl (by decide) (by omega) v acc x [.slice Ax x.length cx] (fun k=>w.heap.size≤k) (fun k=>wr.heap.size≤k) rfl rfl (Kd.M_row hxM) (fun q hq=>⟨by omega,fun e=>by have:=hold q e.symm;omega⟩) (fun q hq=>by (have hq2:w4.heap.size≤q:=hq);omega) hQ4.rS (Below.refl _ _) (show w.heap.size≤w4.heap.size by omega) hl5 ?_;intro out2 w6 hrow6 hb6 hg6 _;obtain ⟨A6,c6,rfl⟩:=Kd.R_slice hrow6;obtain ⟨hG6,hQ6⟩:=hQ4.addS hgl hG hne hw hGw hrow6 hg6;(rw [show (acc++[x]).length=acc.length+1 by simp] at hQ6);obtain ⟨r0,r1,r2,r3,r4,r5,r6,rz⟩:=aZL hG6))
     go_roundw
     case rel=>exact ⟨j+1,_,_,p4,k4,b4,by go_num,hQ6,hfar2⟩
     case measure=>simp [intOf];omega
   | ok z =>
    obtain ⟨z,q⟩:=z
    rw [ht] at hst hL
    obtain ⟨e1,e2,e3,e4⟩:=hst.1 rfl
    subst e1 e2 e3 e4
    have h200:=(cZb bs p2 hp0 hp1).2 _ _ ht
    dsimp only at hL
    have HL:=hid_ hL
    clear hL ht hst
    have fin : ¬ (0 < acc.length ∧ 0 ≤ cmpL cmpS (acc.getD (acc.length - 1) []) x) → Far p1 k1 b1 bs n (j + 1) F1 (aZr [] (bZf bs) (cmpL cmpS)) (acc ++ [x]) p4 0 b4 := fun hh => ⟨by omega, by rw [List.length_append, hfar.len]; rfl, fun _ => ⟨hkb, by omega, by omega, hbb, by
     have:=HL.out
     rw [if_neg hh] at this
     rw [show n - (j+1)=n - j - 1 by omega]
     exact this⟩,fun h=>absurd rfl h⟩
    by_cases hj:0<j
    ·
     have d1:decide ((0:Int)<(j:Int))=true:=decide_eq_true (by omega)
     have d2:decide (0<j)=true:=decide_eq_true hj
     obtain ⟨Ao,co,hAo,hco,hCo⟩:=Kd.R_reads hQ4.rS
     subst hAo
     have hal:=hfar.len
     obtain ⟨ad,B0,b0,rfl,hcell,hcap,hKy⟩:=at_L3 hCo ((j - 1:Nat):Int) (by omega) (by omega)
     rw [Int.toNat_natCast] at hcell
     have hyy:cZV acc ((j - 1:Nat):Int)=acc.getD (acc.length - 1) []:=by unfold cZV;rw [Int.toNat_natCast,hal]
     rw [hyy] at hcell hcap hKy
     clear hyy
     generalize hy:acc.getD (acc.length - 1) []=yy at hcell hcap hKy fin
     obtain ⟨i,hij⟩:∃ i:Nat,i=j - 1:=⟨_,rfl⟩
     rw [←hij] at hcell
     have di0:0≤(i:Int):=by omega
     have di1:(i:Int)<(acc.length:Int):=by omega
     have ei:wrap64 ((j:Int) - 1)=(i:Int):=by rw [hij];exact cZ6 j hj (by omega)
     have ej:(j:Int) - 1=(i:Int):=by omega
     have hyl:=lessS_any w4 B0 Ax b0 cx yy x hKy hcap hCx hcx
     clear hij hal
     cases hcmp:decide (0≤cmpL cmpS yy x) with
     | false =>
      have hfar2:=fin (fun hh=>by have:=decide_eq_true hh.2;rw [hcmp] at this;cases this)
      have HC:=hyl hKy.2.1
      rw [hcmp] at HC
      clear fin HL hj hy hcmp hyl
      go_wp2_with (first|((with_reducible refine HC.mono ?_);rintro e w5x ⟨rfl,⟨nd,rfl⟩⟩;(have hQ5:=hQ4.drewN nd);(have hsd:(w4.drewN nd).heap.size=w4.heap.size:=rfl);obtain ⟨t0,t1,t2,t3,t4,t5,t6,tz⟩:=aZL hQ5.blk)|((with_reducible refine aZh (b:=.append) (xs:=#[.tmp 76,.tmp 78]) rfl ?_);at_builtin;refine Kd.R_append (Kd.slice 9 Kd.string) (w0:=w4.drewN nd) w.heap.size rfl (.tmp 76) (.tmp 78) 24 22 (.slice none 0 0) 24 rfl Try.underlying24 info22 rfl (by decide) (by omega) (.slice (some ad) acc.length co) acc x [.slice Ax x.length cx] (fun k=>w.heap.size≤k) (fun k=>wr.heap.size≤k) rfl rfl (Kd.M_drewN (Kd.M_row hxM) nd) (fun q hq=>⟨by omega,fun e=>by have:=hold q e.symm;omega⟩) (fun q hq=>by (have hq2:w4.heap.size≤q:=hq);omega) hQ5.rS (Below.refl _ _) (show w.heap.size≤w4.heap.size by omega) hl5 ?_;intro out2 w6 hrow6 hb6 hg6 _;obtain ⟨A6,c6,rfl⟩:=Kd.R_slice hrow6;obtain ⟨hG6,hQ6⟩:=hQ5.addS hgl hG hne hw hGw hrow6 hg6;(rw [show (acc++[x]).length=acc.length+1 by simp] at hQ6);obtain ⟨r0,r1,r2,r3,r4,r5,r6,rz⟩:=aZL hG6))
      go_roundw
      case rel=>exact ⟨j+1,_,_,p4,0,b4,by go_num,hQ6,hfar2⟩
      case measure=>simp [intOf];omega
     | true =>
      have HL2:Hid (F1=.error (204,p2)):=by
       have:=HL.out
       rw [hy,if_pos ⟨by omega,of_decide_eq_true hcmp⟩] at this
       exact hid_ this.symm
      have HC:=hyl hKy.2.1
      rw [hcmp] at HC
      clear fin HL hj hy hcmp hyl
      have HFl:=fun nd=>fZs bs w0 (w4.drewN nd) g p4 0 b4 204 p2 (hQ4.drewN nd).rd (hQ4.drewN nd).below
      go_wp2_with (first|((with_reducible refine HC.mono ?_);rintro e w5x ⟨rfl,⟨nd,rfl⟩⟩;(have hsd:(w4.drewN nd).heap.size=w4.heap.size:=rfl);(have hQd:=hQ4.drewN nd);obtain ⟨f0,f1,f2,f3,f4,f5,f6,fz⟩:=aZL hQd.blk)|((with_reducible refine (HFl _).mono ?_);rintro e w5 ⟨rfl,hI5,hB5,hK5⟩;rw [if_pos trivial] at hI5;(have hQ5:=(hQ4.drewN nd).call hgl hG hne hI5 hB5 hK5);(have hxM5:=Kd.R_keep (Kd.R_drewN hxM nd) hK5 (fun q hq=>by omega));(have hsz5:w4.heap.size≤w5.heap.size:=hK5.1);obtain ⟨t0,t1,t2,t3,t4,t5,t6,tz⟩:=aZL hQ5.blk)|((with_reducible refine aZh (b:=.append) (xs:=#[.tmp 76,.tmp 78]) rfl ?_);at_builtin;refine Kd.R_append (Kd.slice 9 Kd.string) (w0:=w5) w.heap.size rfl (.tmp 76) (.tmp 78) 24 22 (.slice none 0 0) 24 rfl Try.underlying24 info22 rfl (by decide) (by omega) (.slice (some ad) acc.length co) acc x [.slice Ax x.length cx] (fun k=>w.heap.size≤k) (fun k=>wr.heap.size≤k) rfl rfl (Kd.M_row hxM5) (fun q hq=>⟨by omega,fun e=>by have:=hold q e.symm;omega⟩) (fun q hq=>by (have hq2:w5.heap.size≤q:=hq);omega) hQ5.rS (Below.refl _ _) (show w.heap.size≤w5.heap.size by omega) hl5 ?_;intro out2 w6 hrow6 hb6 hg6 _;obtain ⟨A6,c6,rfl⟩:=Kd.R_slice hrow6;obtain ⟨hG6,hQ6⟩:=hQ5.addS hgl hG hne hw hGw hrow6 hg6;(rw [show (acc++[x]).length=acc.length+1 by simp] at hQ6);obtain ⟨r0,r1,r2,r3,r4,r5,r6,rz⟩:=aZL hG6))
      go_roundw
      case rel=>exact ⟨j+1,_,_,p4,204,p2,by go_num,hQ6,⟨by omega,by rw [List.length_append,hfar.len];rfl,fun h=>absurd h (by decide),fun _=>.inl ⟨hkb,HL2.out⟩⟩⟩
      case measure=>simp [intOf];omega
    ·
     have d1:decide ((0:Int)<(j:Int))=false:=decide_eq_false (by omega)
     have d2:decide (0<j)=false:=decide_eq_false hj
     have hfar2:=fin (fun hh=>by have:=hh.1;have:=hfar.len;omega)
     clear hj fin HL
     go_wp2_with (((with_reducible refine aZh (b:=.append) (xs:=#[.tmp 76,.tmp 78]) rfl ?_);at_builtin;refine Kd.R_append (Kd.slice 9 Kd.string) (w0:=w4) w.heap.size rfl (.tmp 76) (.tmp 78) 24 22 (.slice none 0 0) 24 rfl Try.underlying24 info22 rfl (by decide) (by omega) v acc x [.slice Ax x.length cx] (fun k=>w.heap.size≤k) (fun k=>wr.heap.size≤k) rfl rfl (Kd.M_row hxM) (fun q hq=>⟨by omega,fun e=>by have:=hold q e.symm;omega⟩) (fun q hq=>by (have hq2:w4.heap.size≤q:=hq);omega) hQ4.rS (Below.refl _ _) (show w.heap.size≤w4.heap.size by omega) hl5 ?_;intro out2 w6 hrow6 hb6 hg6 _;obtain ⟨A6,c6,rfl⟩:=Kd.R_slice hrow6;obtain ⟨hG6,hQ6⟩:=hQ4.addS hgl hG hne hw hGw hrow6 hg6;(rw [show (acc++[x]).length=acc.length+1 by simp] at hQ6);obtain ⟨r0,r1,r2,r3,r4,r5,r6,rz⟩:=aZL hG6))
     go_roundw
     case rel=>exact ⟨j+1,_,_,p4,0,b4,by go_num,hQ6,hfar2⟩
     case measure=>simp [intOf];omega
  ·
   have hst:=hfar.stk hgo
   by_cases hjn:(j:Int)<(n:Int)
   ·
    have hk2:(k2 == 0)=false:=by rw [beq_eq_false_iff_ne];intro e;exact hgo ⟨by omega,e⟩
    have hlS:k2=0→acc.length=n:=fun hk=>by
     have:=hfar.len
     by_cases hq:j<n
     · exact absurd ⟨hq,hk⟩ hgo
     · omega
    have hp2:k2=0→0≤p2∧p2≤bs.length:=fun hk=>⟨(hfar.good hk).2.1,(hfar.good hk).2.2.1⟩
    have hstS:Stk p k b (aZO [] (bZf bs) (cmpL cmpS) bs p 0 (4096 - (nT:Int) - (nN:Int))) acc p2 k2 b2:=hs1.then h (L:=fun n q=>aZr [] (bZf bs) (cmpL cmpS) n.toNat q []) rfl (by rw [show ((n:Int).toNat)=n from Int.toNat_natCast n,HF1.out];exact hst)
    have e5:wrap64 (4096 - (nT:Int) - (nN:Int) - (n:Int))=4096 - nT - nN - n:=bZ4 _ (by omega) (by omega)
    clear hst hfar hgo
    go_wp2_with (fail)
    clear e5 a1 a2
    refine (bZ1 bs hb hlen w0 wr g p2 k2 b2 hS.rd hS.below hp2 0 (4096 - (nT:Int) - (nN:Int) - (n:Int))).mono ?_
    rintro e w5 ⟨x5,p5,k5,b5,rfl,hI5,hB5,hK5,hs5,hz5⟩
    have hS9:=hS.call hgl hG hne hI5 hB5 hK5
    clear hS hI5 hB5 hK5
    generalize v=vS1 at hS9 ⊢
    generalize acc=S1 at hS9 hstS hlS
    have hx5:0≤x5∧x5≤4096:=by
     by_cases hk5:k5=0
     ·
      obtain ⟨_,_,_,z1,z2,_⟩:=hs5.got hp2 hk5
      omega
     · rw [hz5 hk5];omega
    obtain ⟨m,rfl⟩:=Int.eq_ofNat_of_zero_le hx5.1
    have hp2x:k5=0→0≤p5∧p5≤bs.length:=fun hk5=>by
     obtain ⟨e1,_,_,_,_,z1,z2⟩:=hs5.got hp2 hk5
     have:=hp2 e1
     omega
    generalize hF:aZr [] (bZr bs) (cmpL cmpI) m p5 []=F2
    have HF2:=hid_ hF;clear hF
    have hfar0:Far p5 k5 b5 bs m 0 F2 (aZr [] (bZr bs) (cmpL cmpI)) [] p5 k5 b5:=⟨Nat.zero_le _,rfl,fun hk=>⟨hk,(hp2x hk).1,(hp2x hk).2,rfl,HF2.out⟩,fun hk=>.inr ⟨hk,rfl,rfl,rfl⟩⟩
    go_wp2_with (fail)
    go_loopw [9] (fun i wr=>∃ (j:Nat) (v:Value) (acc:List (List Int)) (p2 k2 b2:Int),i=.int .i64 j∧StQr w0 w wr g G bs p2 k2 b2 (.slice AT nT cT) (.slice AN nN cN) vS1 v vC d l S1 acc∧Far p5 k5 b5 bs m j F2 (aZr [] (bZr bs) (cmpL cmpI)) acc p2 k2 b2) (fun i _=>m - (intOf i).toNat)
    case atStart=>exact ⟨0,_,[],p5,k5,b5,rfl,hS9,hfar0⟩
    case round =>
     clear hS9 hfar0
     obtain ⟨j,v,acc,p2,k2,b2,rfl,hS,hfar⟩:=hrel
     have hle:=hfar.le
     obtain ⟨A,c,a0,a1,a2,a3,az,hc,hC⟩:=aZV hS.rd
     clear a0 a3 az hc hC
     by_cases hgo:j<m∧k2=0
     ·
      obtain ⟨hjn,rfl⟩:=hgo
      obtain ⟨hkb,hp0,hp1,hbb,hL⟩:=hfar.good rfl
      have d0:(j:Int)<(m:Int):=by omega
      go_wp2_with (fail)
      refine (bZ1 bs hb hlen w0 wr g p2 0 b2 hS.rd hS.below (fun _=>⟨hp0,hp1⟩) 1 1000).mono ?_
      rintro e w2 ⟨y0,p3,k3,b3,rfl,hI3,hB3,hK3,hs3,hz3⟩
      have hQ3:=hS.call hgl hG hne hI3 hB3 hK3
      have hy:0≤y0∧y0≤1000:=by
       by_cases hk3:k3=0
       ·
        obtain ⟨_,_,_,z1,z2,_⟩:=hs3.got (fun _=>⟨hp0,hp1⟩) hk3
        omega
       · rw [hz3 hk3];omega
      obtain ⟨y,rfl⟩:=Int.eq_ofNat_of_zero_le hy.1
      have hp3:k3=0→0≤p3∧p3≤bs.length:=fun hk3=>by
       obtain ⟨_,_,_,_,_,z1,z2⟩:=hs3.got (fun _=>⟨hp0,hp1⟩) hk3
       omega
      clear a1 a2 hI3 hB3
      go_wp2_with (fail)
      refine (rNums bs hb hlen w0 w2 g p3 k3 b3 hQ3.rd hQ3.below hp3 y (by omega)).mono ?_
      rintro e w4 ⟨vx,x,p4,k4,b4,rfl,hx,hI4,hB4,hK4,hs4⟩
      have hQ4:=hQ3.call hgl hG hne hI4 hB4 hK4
      have hst:Stk p2 0 b2 (bZr bs p2) x p4 k4 b4:=hs3.then (fun _=>⟨hp0,hp1⟩) (L:=fun n q=>aZr 0 (numF bs) cmpI n.toNat q []) rfl hs4
      have hsz2:wr.heap.size≤w2.heap.size:=hK3.1
      have hsz4:w2.heap.size≤w4.heap.size:=hK4.1
      have hszr:=hS.keep.1
      have hold:=Kd.R_lt hS.rM
      have hxM:=Kd.R_mono (Kd.R_lower (Kd.R_bound hx) (show w.heap.size≤w2.heap.size by omega)) (ok':=fun k=>wr.heap.size≤k) (fun _ hk=>by have:=hk.2.1;omega)
      clear hQ3 hs3 hs4 hz3 hI4 hB4 hx hp3
      obtain ⟨Ax,cx,rfl,hcx,hCx⟩:=Kd.R_reads hxM
      have hl5:(acc.length+1)*24≤140737488355328:=by have:=hfar.len;omega
      obtain ⟨A,c,a0,a1,a2,a3,az,hc,hC⟩:=aZV hQ4.rd
      obtain ⟨q0,q1,q2,q3,q4,q5,q6,qz⟩:=aZL hQ4.blk
      clear a0 a1 a3 az hc hC q0 q1 q2 q4 q5 q6
      rw [show m - j=(m - j - 1)+1 by omega] at hL
      unfold aZr at hL
      cases ht:bZr bs p2 with
      | error f =>
       obtain ⟨kk,q⟩:=f
       rw [ht] at hst hL
       obtain ⟨e1,e2⟩:=hst.1 rfl
       subst e1 e2
       have h200:=(bZ9 bs p2 hp0 hp1).1 _ _ ht
       have hk4:(k4 == 0)=false:=by rw [beq_eq_false_iff_ne];omega
       have hfar2:Far p5 k5 b5 bs m (j+1) F2 (aZr [] (bZr bs) (cmpL cmpI)) (acc++[x]) p4 k4 b4:=⟨by omega,by rw [List.length_append,hfar.len];rfl,fun h=>by omega,fun _=>.inl ⟨hkb,hL.symm⟩⟩
       clear hL ht hst
       by_cases hj:0<j
       ·
        have d1:decide ((0:Int)<(j:Int))=true:=decide_eq_true (by omega)
        have d2:decide (0<j)=true:=decide_eq_true hj
        clear hj
        go_wp2_with (((with_reducible refine aZh (b:=.append) (xs:=#[.tmp 136,.tmp 138]) rfl ?_);at_builtin;refine Kd.R_append (Kd.slice 3 (Kd.int .i64)) (w0:=w4) w.heap.size rfl (.tmp 136) (.tmp 138) 25 23 (.slice none 0 0) 24 rfl Try.underlying25 info23 rfl (by decide) (by omega) v acc x [.slice Ax x.length cx] (fun k=>w.heap.size≤k) (fun k=>wr.heap.size≤k) rfl rfl (Kd.M_row hxM) (fun q hq=>⟨by omega,fun e=>by have:=hold q e.symm;omega⟩) (fun q hq=>by (have hq2:w4.heap.size≤q:=hq);omega) hQ4.rM (Below.refl _ _) (show w.heap.size≤w4.heap.size by omega) hl5 ?_;intro out2 w6 hrow6 hb6 hg6 _;obtain ⟨A6,c6,rfl⟩:=Kd.R_slice hrow6;obtain ⟨hG6,hQ6⟩:=hQ4.addM hgl hG hne hw hGw hrow6 hg6;(rw [show (acc++[x]).length=acc.length+1 by simp] at hQ6);obtain ⟨r0,r1,r2,r3,r4,r5,r6,rz⟩:=aZL hG6))
        go_roundw
        case rel=>exact ⟨j+1,_,_,p4,k4,b4,by go_num,hQ6,hfar2⟩
        case measure=>simp [intOf];omega
       ·
        have d1:decide ((0:Int)<(j:Int))=false:=decide_eq_false (by omega)
        have d2:decide (0<j)=false:=decide_eq_false hj
        clear hj
        go_wp2_with (((with_reducible refine aZh (b:=.append) (xs:=#[.tmp 136,.tmp 138]) rfl ?_);at_builtin;refine Kd.R_append (Kd.slice 3 (Kd.int .i64)) (w0:=w4) w.heap.size rfl (.tmp 136) (.tmp 138) 25 23 (.slice none 0 0) 24 rfl Try.underlying25 info23 rfl (by decide) (by omega) v acc x [.slice Ax x.length cx] (fun k=>w.heap.size≤k) (fun k=>wr.heap.size≤k) rfl rfl (Kd.M_row hxM) (fun q hq=>⟨by omega,fun e=>by have:=hold q e.symm;omega⟩) (fun q hq=>by (have hq2:w4.heap.size≤q:=hq);omega) hQ4.rM (Below.refl _ _) (show w.heap.size≤w4.heap.size by omega) hl5 ?_;intro out2 w6 hrow6 hb6 hg6 _;obtain ⟨A6,c6,rfl⟩:=Kd.R_slice hrow6;obtain ⟨hG6,hQ6⟩:=hQ4.addM hgl hG hne hw hGw hrow6 hg6;(rw [show (acc++[x]).length=acc.length+1 by simp] at hQ6);obtain ⟨r0,r1,r2,r3,r4,r5,r6,rz⟩:=aZL hG6))
        go_roundw
        case rel=>exact ⟨j+1,_,_,p4,k4,b4,by go_num,hQ6,hfar2⟩
        case measure=>simp [intOf];omega
      | ok z =>
       obtain ⟨z,q⟩:=z
       rw [ht] at hst hL
       obtain ⟨e1,e2,e3,e4⟩:=hst.1 rfl
       subst e1 e2 e3 e4
       have h200:=(bZ9 bs p2 hp0 hp1).2 _ _ ht
       dsimp only at hL
       have HL:=hid_ hL
       clear hL ht hst
       have fin : ¬ (0 < acc.length ∧ 0 ≤ cmpL cmpI (acc.getD (acc.length - 1) []) x) → Far p5 k5 b5 bs m (j + 1) F2 (aZr [] (bZr bs) (cmpL cmpI)) (acc ++ [x]) p4 0 b4 := fun hh => ⟨by omega, by rw [List.length_append, hfar.len]; rfl, fun _ => ⟨hkb, by omega, by omega, hbb, by
        have:=HL.out
        rw [if_neg hh] at this
        rw [show m - (j+1)=m - j - 1 by omega]
        exact this⟩,fun h=>absurd rfl h⟩
       by_cases hj:0<j
       ·
        have d1:decide ((0:Int)<(j:Int))=true:=decide_eq_true (by omega)
        have d2:decide (0<j)=true:=decide_eq_true hj
        obtain ⟨Ao,co,hAo,hco,hCo⟩:=Kd.R_reads hQ4.rM
        subst hAo
        have hal:=hfar.len
        obtain ⟨ad,B0,b0,rfl,hcell,hcap,hKy⟩:=at_L4 hCo ((j - 1:Nat):Int) (by omega) (by omega)
        rw [Int.toNat_natCast] at hcell
        have hyy:cZx acc ((j - 1:Nat):Int)=acc.getD (acc.length - 1) []:=by unfold cZx;rw [Int.toNat_natCast,hal]
        rw [hyy] at hcell hcap hKy
        clear hyy
        generalize hy:acc.getD (acc.length - 1) []=yy at hcell hcap hKy fin
        obtain ⟨i,hij⟩:∃ i:Nat,i=j - 1:=⟨_,rfl⟩
        rw [←hij] at hcell
        have di0:0≤(i:Int):=by omega
        have di1:(i:Int)<(acc.length:Int):=by omega
        have ei:wrap64 ((j:Int) - 1)=(i:Int):=by rw [hij];exact cZ6 j hj (by omega)
        have ej:(j:Int) - 1=(i:Int):=by omega
        have hyl:=fZZ w4 B0 Ax b0 cx yy x hKy hcap hCx hcx
        clear hij hal
        cases hcmp:decide (0≤cmpL cmpI yy x) with
        | false =>
         have hfar2:=fin (fun hh=>by have:=decide_eq_true hh.2;rw [hcmp] at this;cases this)
         have HC:=hyl hKy.2.1
         rw [hcmp] at HC
         clear fin HL hj hy hcmp hyl
         go_wp2_with (first|((with_reducible refine HC.mono ?_);rintro e w5x ⟨rfl,⟨nd,rfl⟩⟩;(have hQ5:=hQ4.drewN nd);(have hsd:(w4.drewN nd).heap.size=w4.heap.size:=rfl);obtain ⟨t0,t1,t2,t3,t4,t5,t6,tz⟩:=aZL hQ5.blk)|((with_reducible refine aZh (b:=.append) (xs:=#[.tmp 136,.tmp 138]) rfl ?_);at_builtin;refine Kd.R_append (Kd.slice 3 (Kd.int .i64)) (w0:=w4.drewN nd) w.heap.size rfl (.tmp 136) (.tmp 138) 25 23 (.slice none 0 0) 24 rfl Try.underlying25 info23 rfl (by decide) (by omega) (.slice (some ad) acc.length co) acc x [.slice Ax x.length cx] (fun k=>w.heap.size≤k) (fun k=>wr.heap.size≤k) rfl rfl (Kd.M_drewN (Kd.M_row hxM) nd) (fun q hq=>⟨by omega,fun e=>by have:=hold q e.symm;omega⟩) (fun q hq=>by (have hq2:w4.heap.size≤q:=hq);omega) hQ5.rM (Below.refl _ _) (show w.heap.size≤w4.heap.size by omega) hl5 ?_;intro out2 w6 hrow6 hb6 hg6 _;obtain ⟨A6,c6,rfl⟩:=Kd.R_slice hrow6;obtain ⟨hG6,hQ6⟩:=hQ5.addM hgl hG hne hw hGw hrow6 hg6;(rw [show (acc++[x]).length=acc.length+1 by simp] at hQ6);obtain ⟨r0,r1,r2,r3,r4,r5,r6,rz⟩:=aZL hG6))
         go_roundw
         case rel=>exact ⟨j+1,_,_,p4,0,b4,by go_num,hQ6,hfar2⟩
         case measure=>simp [intOf];omega
        | true =>
         have HL2:Hid (F2=.error (204,p2)):=by
          have:=HL.out
          rw [hy,if_pos ⟨by omega,of_decide_eq_true hcmp⟩] at this
          exact hid_ this.symm
         have HC:=hyl hKy.2.1
         rw [hcmp] at HC
         clear fin HL hj hy hcmp hyl
         have HFl:=fun nd=>fZs bs w0 (w4.drewN nd) g p4 0 b4 204 p2 (hQ4.drewN nd).rd (hQ4.drewN nd).below
         go_wp2_with (first|((with_reducible refine HC.mono ?_);rintro e w5x ⟨rfl,⟨nd,rfl⟩⟩;(have hsd:(w4.drewN nd).heap.size=w4.heap.size:=rfl);(have hQd:=hQ4.drewN nd);obtain ⟨f0,f1,f2,f3,f4,f5,f6,fz⟩:=aZL hQd.blk)|((with_reducible refine (HFl _).mono ?_);rintro e w5 ⟨rfl,hI5,hB5,hK5⟩;rw [if_pos trivial] at hI5;(have hQ5:=(hQ4.drewN nd).call hgl hG hne hI5 hB5 hK5);(have hxM5:=Kd.R_keep (Kd.R_drewN hxM nd) hK5 (fun q hq=>by omega));(have hsz5:w4.heap.size≤w5.heap.size:=hK5.1);obtain ⟨t0,t1,t2,t3,t4,t5,t6,tz⟩:=aZL hQ5.blk)|((with_reducible refine aZh (b:=.append) (xs:=#[.tmp 136,.tmp 138]) rfl ?_);at_builtin;refine Kd.R_append (Kd.slice 3 (Kd.int .i64)) (w0:=w5) w.heap.size rfl (.tmp 136) (.tmp 138) 25 23 (.slice none 0 0) 24 rfl Try.underlying25 info23 rfl (by decide) (by omega) (.slice (some ad) acc.length co) acc x [.slice Ax x.length cx] (fun k=>w.heap.size≤k) (fun k=>wr.heap.size≤k) rfl rfl (Kd.M_row hxM5) (fun q hq=>⟨by omega,fun e=>by have:=hold q e.symm;omega⟩) (fun q hq=>by (have hq2:w5.heap.size≤q:=hq);omega) hQ5.rM (Below.refl _ _) (show w.heap.size≤w5.heap.size by omega) hl5 ?_;intro out2 w6 hrow6 hb6 hg6 _;obtain ⟨A6,c6,rfl⟩:=Kd.R_slice hrow6;obtain ⟨hG6,hQ6⟩:=hQ5.addM hgl hG hne hw hGw hrow6 hg6;(rw [show (acc++[x]).length=acc.length+1 by simp] at hQ6);obtain ⟨r0,r1,r2,r3,r4,r5,r6,rz⟩:=aZL hG6))
         go_roundw
         case rel=>exact ⟨j+1,_,_,p4,204,p2,by go_num,hQ6,⟨by omega,by rw [List.length_append,hfar.len];rfl,fun h=>absurd h (by decide),fun _=>.inl ⟨hkb,HL2.out⟩⟩⟩
         case measure=>simp [intOf];omega
       ·
        have d1:decide ((0:Int)<(j:Int))=false:=decide_eq_false (by omega)
        have d2:decide (0<j)=false:=decide_eq_false hj
        have hfar2:=fin (fun hh=>by have:=hh.1;have:=hfar.len;omega)
        clear hj fin HL
        go_wp2_with (((with_reducible refine aZh (b:=.append) (xs:=#[.tmp 136,.tmp 138]) rfl ?_);at_builtin;refine Kd.R_append (Kd.slice 3 (Kd.int .i64)) (w0:=w4) w.heap.size rfl (.tmp 136) (.tmp 138) 25 23 (.slice none 0 0) 24 rfl Try.underlying25 info23 rfl (by decide) (by omega) v acc x [.slice Ax x.length cx] (fun k=>w.heap.size≤k) (fun k=>wr.heap.size≤k) rfl rfl (Kd.M_row hxM) (fun q hq=>⟨by omega,fun e=>by have:=hold q e.symm;omega⟩) (fun q hq=>by (have hq2:w4.heap.size≤q:=hq);omega) hQ4.rM (Below.refl _ _) (show w.heap.size≤w4.heap.size by omega) hl5 ?_;intro out2 w6 hrow6 hb6 hg6 _;obtain ⟨A6,c6,rfl⟩:=Kd.R_slice hrow6;obtain ⟨hG6,hQ6⟩:=hQ4.addM hgl hG hne hw hGw hrow6 hg6;(rw [show (acc++[x]).length=acc.length+1 by simp] at hQ6);obtain ⟨r0,r1,r2,r3,r4,r5,r6,rz⟩:=aZL hG6))
        go_roundw
        case rel=>exact ⟨j+1,_,_,p4,0,b4,by go_num,hQ6,hfar2⟩
        case measure=>simp [intOf];omega
     ·
      have hst:=hfar.stk hgo
      by_cases hjn:(j:Int)<(m:Int)
      ·
       have hk2:(k2 == 0)=false:=by rw [beq_eq_false_iff_ne];intro e;exact hgo ⟨by omega,e⟩
       have hfin:=eZf hstS h hlS (hs5.then hp2 (L:=fun n q=>aZr [] (bZr bs) (cmpL cmpI) n.toNat q []) rfl (by rw [show ((m:Int).toNat)=m from Int.toNat_natCast m,HF2.out];exact hst))
       clear hst hfar hgo
       go_wp2_with (fail)
       refine bodyPost_end (results_none Try.results64 _ _ _) rfl ⟨rfl,_,_,_,_,_,_,_,hS,hfin⟩
      ·
       have hk2:True:=trivial
       have hfin:=eZf hstS h hlS (hs5.then hp2 (L:=fun n q=>aZr [] (bZr bs) (cmpL cmpI) n.toNat q []) rfl (by rw [show ((m:Int).toNat)=m from Int.toNat_natCast m,HF2.out];exact hst))
       clear hst hfar hgo
       go_wp2_with (fail)
       refine bodyPost_end (results_none Try.results64 _ _ _) rfl ⟨rfl,_,_,_,_,_,_,_,hS,hfin⟩
   ·
    have hk2:True:=trivial
    have hlS:k2=0→acc.length=n:=fun hk=>by
     have:=hfar.len
     by_cases hq:j<n
     · exact absurd ⟨hq,hk⟩ hgo
     · omega
    have hp2:k2=0→0≤p2∧p2≤bs.length:=fun hk=>⟨(hfar.good hk).2.1,(hfar.good hk).2.2.1⟩
    have hstS:Stk p k b (aZO [] (bZf bs) (cmpL cmpS) bs p 0 (4096 - (nT:Int) - (nN:Int))) acc p2 k2 b2:=hs1.then h (L:=fun n q=>aZr [] (bZf bs) (cmpL cmpS) n.toNat q []) rfl (by rw [show ((n:Int).toNat)=n from Int.toNat_natCast n,HF1.out];exact hst)
    have e5:wrap64 (4096 - (nT:Int) - (nN:Int) - (n:Int))=4096 - nT - nN - n:=bZ4 _ (by omega) (by omega)
    clear hst hfar hgo
    go_wp2_with (fail)
    clear e5 a1 a2
    refine (bZ1 bs hb hlen w0 wr g p2 k2 b2 hS.rd hS.below hp2 0 (4096 - (nT:Int) - (nN:Int) - (n:Int))).mono ?_
    rintro e w5 ⟨x5,p5,k5,b5,rfl,hI5,hB5,hK5,hs5,hz5⟩
    have hS9:=hS.call hgl hG hne hI5 hB5 hK5
    clear hS hI5 hB5 hK5
    generalize v=vS1 at hS9 ⊢
    generalize acc=S1 at hS9 hstS hlS
    have hx5:0≤x5∧x5≤4096:=by
     by_cases hk5:k5=0
     ·
      obtain ⟨_,_,_,z1,z2,_⟩:=hs5.got hp2 hk5
      omega
     · rw [hz5 hk5];omega
    obtain ⟨m,rfl⟩:=Int.eq_ofNat_of_zero_le hx5.1
    have hp2x:k5=0→0≤p5∧p5≤bs.length:=fun hk5=>by
     obtain ⟨e1,_,_,_,_,z1,z2⟩:=hs5.got hp2 hk5
     have:=hp2 e1
     omega
    generalize hF:aZr [] (bZr bs) (cmpL cmpI) m p5 []=F2
    have HF2:=hid_ hF;clear hF
    have hfar0:Far p5 k5 b5 bs m 0 F2 (aZr [] (bZr bs) (cmpL cmpI)) [] p5 k5 b5:=⟨Nat.zero_le _,rfl,fun hk=>⟨hk,(hp2x hk).1,(hp2x hk).2,rfl,HF2.out⟩,fun hk=>.inr ⟨hk,rfl,rfl,rfl⟩⟩
    go_wp2_with (fail)
    go_loopw [9] (fun i wr=>∃ (j:Nat) (v:Value) (acc:List (List Int)) (p2 k2 b2:Int),i=.int .i64 j∧StQr w0 w wr g G bs p2 k2 b2 (.slice AT nT cT) (.slice AN nN cN) vS1 v vC d l S1 acc∧Far p5 k5 b5 bs m j F2 (aZr [] (bZr bs) (cmpL cmpI)) acc p2 k2 b2) (fun i _=>m - (intOf i).toNat)
    case atStart=>exact ⟨0,_,[],p5,k5,b5,rfl,hS9,hfar0⟩
    case round =>
     clear hS9 hfar0
     obtain ⟨j,v,acc,p2,k2,b2,rfl,hS,hfar⟩:=hrel
     have hle:=hfar.le
     obtain ⟨A,c,a0,a1,a2,a3,az,hc,hC⟩:=aZV hS.rd
     clear a0 a3 az hc hC
     by_cases hgo:j<m∧k2=0
     ·
      obtain ⟨hjn,rfl⟩:=hgo
      obtain ⟨hkb,hp0,hp1,hbb,hL⟩:=hfar.good rfl
      have d0:(j:Int)<(m:Int):=by omega
      go_wp2_with (fail)
      refine (bZ1 bs hb hlen w0 wr g p2 0 b2 hS.rd hS.below (fun _=>⟨hp0,hp1⟩) 1 1000).mono ?_
      rintro e w2 ⟨y0,p3,k3,b3,rfl,hI3,hB3,hK3,hs3,hz3⟩
      have hQ3:=hS.call hgl hG hne hI3 hB3 hK3
      have hy:0≤y0∧y0≤1000:=by
       by_cases hk3:k3=0
       ·
        obtain ⟨_,_,_,z1,z2,_⟩:=hs3.got (fun _=>⟨hp0,hp1⟩) hk3
        omega
       · rw [hz3 hk3];omega
      obtain ⟨y,rfl⟩:=Int.eq_ofNat_of_zero_le hy.1
      have hp3:k3=0→0≤p3∧p3≤bs.length:=fun hk3=>by
       obtain ⟨_,_,_,_,_,z1,z2⟩:=hs3.got (fun _=>⟨hp0,hp1⟩) hk3
       omega
      clear a1 a2 hI3 hB3
      go_wp2_with (fail)
      refine (rNums bs hb hlen w0 w2 g p3 k3 b3 hQ3.rd hQ3.below hp3 y (by omega)).mono ?_
      rintro e w4 ⟨vx,x,p4,k4,b4,rfl,hx,hI4,hB4,hK4,hs4⟩
      have hQ4:=hQ3.call hgl hG hne hI4 hB4 hK4
      have hst:Stk p2 0 b2 (bZr bs p2) x p4 k4 b4:=hs3.then (fun _=>⟨hp0,hp1⟩) (L:=fun n q=>aZr 0 (numF bs) cmpI n.toNat q []) rfl hs4
      have hsz2:wr.heap.size≤w2.heap.size:=hK3.1
      have hsz4:w2.heap.size≤w4.heap.size:=hK4.1
      have hszr:=hS.keep.1
      have hold:=Kd.R_lt hS.rM
      have hxM:=Kd.R_mono (Kd.R_lower (Kd.R_bound hx) (show w.heap.size≤w2.heap.size by omega)) (ok':=fun k=>wr.heap.size≤k) (fun _ hk=>by have:=hk.2.1;omega)
      clear hQ3 hs3 hs4 hz3 hI4 hB4 hx hp3
      obtain ⟨Ax,cx,rfl,hcx,hCx⟩:=Kd.R_reads hxM
      have hl5:(acc.length+1)*24≤140737488355328:=by have:=hfar.len;omega
      obtain ⟨A,c,a0,a1,a2,a3,az,hc,hC⟩:=aZV hQ4.rd
      obtain ⟨q0,q1,q2,q3,q4,q5,q6,qz⟩:=aZL hQ4.blk
      clear a0 a1 a3 az hc hC q0 q1 q2 q4 q5 q6
      rw [show m - j=(m - j - 1)+1 by omega] at hL
      unfold aZr at hL
      cases ht:bZr bs p2 with
      | error f =>
       obtain ⟨kk,q⟩:=f
       rw [ht] at hst hL
       obtain ⟨e1,e2⟩:=hst.1 rfl
       subst e1 e2
       have h200:=(bZ9 bs p2 hp0 hp1).1 _ _ ht
       have hk4:(k4 == 0)=false:=by rw [beq_eq_false_iff_ne];omega
       have hfar2:Far p5 k5 b5 bs m (j+1) F2 (aZr [] (bZr bs) (cmpL cmpI)) (acc++[x]) p4 k4 b4:=⟨by omega,by rw [List.length_append,hfar.len];rfl,fun h=>by omega,fun _=>.inl ⟨hkb,hL.symm⟩⟩
       clear hL ht hst
       by_cases hj:0<j
       ·
        have d1:decide ((0:Int)<(j:Int))=true:=decide_eq_true (by omega)
        have d2:decide (0<j)=true:=decide_eq_true hj
        clear hj
        go_wp2_with (((with_reducible refine aZh (b:=.append) (xs:=#[.tmp 136,.tmp 138]) rfl ?_);at_builtin;refine Kd.R_append (Kd.slice 3 (Kd.int .i64)) (w0:=w4) w.heap.size rfl (.tmp 136) (.tmp 138) 25 23 (.slice none 0 0) 24 rfl Try.underlying25 info23 rfl (by decide) (by omega) v acc x [.slice Ax x.length cx] (fun k=>w.heap.size≤k) (fun k=>wr.heap.size≤k) rfl rfl (Kd.M_row hxM) (fun q hq=>⟨by omega,fun e=>by have:=hold q e.symm;omega⟩) (fun q hq=>by (have hq2:w4.heap.size≤q:=hq);omega) hQ4.rM (Below.refl _ _) (show w.heap.size≤w4.heap.size by omega) hl5 ?_;intro out2 w6 hrow6 hb6 hg6 _;obtain ⟨A6,c6,rfl⟩:=Kd.R_slice hrow6;obtain ⟨hG6,hQ6⟩:=hQ4.addM hgl hG hne hw hGw hrow6 hg6;(rw [show (acc++[x]).length=acc.length+1 by simp] at hQ6);obtain ⟨r0,r1,r2,r3,r4,r5,r6,rz⟩:=aZL hG6))
        go_roundw
        case rel=>exact ⟨j+1,_,_,p4,k4,b4,by go_num,hQ6,hfar2⟩
        case measure=>simp [intOf];omega
       ·
        have d1:decide ((0:Int)<(j:Int))=false:=decide_eq_false (by omega)
        have d2:decide (0<j)=false:=decide_eq_false hj
        clear hj
        go_wp2_with (((with_reducible refine aZh (b:=.append) (xs:=#[.tmp 136,.tmp 138]) rfl ?_);at_builtin;refine Kd.R_append (Kd.slice 3 (Kd.int .i64)) (w0:=w4) w.heap.size rfl (.tmp 136) (.tmp 138) 25 23 (.slice none 0 0) 24 rfl Try.underlying25 info23 rfl (by decide) (by omega) v acc x [.slice Ax x.length cx] (fun k=>w.heap.size≤k) (fun k=>wr.heap.size≤k) rfl rfl (Kd.M_row hxM) (fun q hq=>⟨by omega,fun e=>by have:=hold q e.symm;omega⟩) (fun q hq=>by (have hq2:w4.heap.size≤q:=hq);omega) hQ4.rM (Below.refl _ _) (show w.heap.size≤w4.heap.size by omega) hl5 ?_;intro out2 w6 hrow6 hb6 hg6 _;obtain ⟨A6,c6,rfl⟩:=Kd.R_slice hrow6;obtain ⟨hG6,hQ6⟩:=hQ4.addM hgl hG hne hw hGw hrow6 hg6;(rw [show (acc++[x]).length=acc.length+1 by simp] at hQ6);obtain ⟨r0,r1,r2,r3,r4,r5,r6,rz⟩:=aZL hG6))
        go_roundw
        case rel=>exact ⟨j+1,_,_,p4,k4,b4,by go_num,hQ6,hfar2⟩
        case measure=>simp [intOf];omega
      | ok z =>
       obtain ⟨z,q⟩:=z
       rw [ht] at hst hL
       obtain ⟨e1,e2,e3,e4⟩:=hst.1 rfl
       subst e1 e2 e3 e4
       have h200:=(bZ9 bs p2 hp0 hp1).2 _ _ ht
       dsimp only at hL
       have HL:=hid_ hL
       clear hL ht hst
       have fin : ¬ (0 < acc.length ∧ 0 ≤ cmpL cmpI (acc.getD (acc.length - 1) []) x) → Far p5 k5 b5 bs m (j + 1) F2 (aZr [] (bZr bs) (cmpL cmpI)) (acc ++ [x]) p4 0 b4 := fun hh => ⟨by omega, by rw [List.length_append, hfar.len]; rfl, fun _ => ⟨hkb, by omega, by omega, hbb, by
        have:=HL.out
        rw [if_neg hh] at this
        rw [show m - (j+1)=m - j - 1 by omega]
        exact this⟩,fun h=>absurd rfl h⟩
       by_cases hj:0<j
       ·
        have d1:decide ((0:Int)<(j:Int))=true:=decide_eq_true (by omega)
        have d2:decide (0<j)=true:=decide_eq_true hj
        obtain ⟨Ao,co,hAo,hco,hCo⟩:=Kd.R_reads hQ4.rM
        subst hAo
        have hal:=hfar.len
        obtain ⟨ad,B0,b0,rfl,hcell,hcap,hKy⟩:=at_L4 hCo ((j - 1:Nat):Int) (by omega) (by omega)
        rw [Int.toNat_natCast] at hcell
        have hyy:cZx acc ((j - 1:Nat):Int)=acc.getD (acc.length - 1) []:=by unfold cZx;rw [Int.toNat_natCast,hal]
        rw [hyy] at hcell hcap hKy
        clear hyy
        generalize hy:acc.getD (acc.length - 1) []=yy at hcell hcap hKy fin
        obtain ⟨i,hij⟩:∃ i:Nat,i=j - 1:=⟨_,rfl⟩
        rw [←hij] at hcell
        have di0:0≤(i:Int):=by omega
        have di1:(i:Int)<(acc.length:Int):=by omega
        have ei:wrap64 ((j:Int) - 1)=(i:Int):=by rw [hij];exact cZ6 j hj (by omega)
        have ej:(j:Int) - 1=(i:Int):=by omega
        have hyl:=fZZ w4 B0 Ax b0 cx yy x hKy hcap hCx hcx
        clear hij hal
        cases hcmp:decide (0≤cmpL cmpI yy x) with
        | false =>
         have hfar2:=fin (fun hh=>by have:=decide_eq_true hh.2;rw [hcmp] at this;cases this)
         have HC:=hyl hKy.2.1
         rw [hcmp] at HC
         clear fin HL hj hy hcmp hyl
         go_wp2_with (first|((with_reducible refine HC.mono ?_);rintro e w5x ⟨rfl,⟨nd,rfl⟩⟩;(have hQ5:=hQ4.drewN nd);(have hsd:(w4.drewN nd).heap.size=w4.heap.size:=rfl);obtain ⟨t0,t1,t2,t3,t4,t5,t6,tz⟩:=aZL hQ5.blk)|((with_reducible refine aZh (b:=.append) (xs:=#[.tmp 136,.tmp 138]) rfl ?_);at_builtin;refine Kd.R_append (Kd.slice 3 (Kd.int .i64)) (w0:=w4.drewN nd) w.heap.size rfl (.tmp 136) (.tmp 138) 25 23 (.slice none 0 0) 24 rfl Try.underlying25 info23 rfl (by decide) (by omega) (.slice (some ad) acc.length co) acc x [.slice Ax x.length cx] (fun k=>w.heap.size≤k) (fun k=>wr.heap.size≤k) rfl rfl (Kd.M_drewN (Kd.M_row hxM) nd) (fun q hq=>⟨by omega,fun e=>by have:=hold q e.symm;omega⟩) (fun q hq=>by (have hq2:w4.heap.size≤q:=hq);omega) hQ5.rM (Below.refl _ _) (show w.heap.size≤w4.heap.size by omega) hl5 ?_;intro out2 w6 hrow6 hb6 hg6 _;obtain ⟨A6,c6,rfl⟩:=Kd.R_slice hrow6;obtain ⟨hG6,hQ6⟩:=hQ5.addM hgl hG hne hw hGw hrow6 hg6;(rw [show (acc++[x]).length=acc.length+1 by simp] at hQ6);obtain ⟨r0,r1,r2,r3,r4,r5,r6,rz⟩:=aZL hG6))
         go_roundw
         case rel=>exact ⟨j+1,_,_,p4,0,b4,by go_num,hQ6,hfar2⟩
         case measure=>simp [intOf];omega
        | true =>
         have HL2:Hid (F2=.error (204,p2)):=by
          have:=HL.out
          rw [hy,if_pos ⟨by omega,of_decide_eq_true hcmp⟩] at this
          exact hid_ this.symm
         have HC:=hyl hKy.2.1
         rw [hcmp] at HC
         clear fin HL hj hy hcmp hyl
         have HFl:=fun nd=>fZs bs w0 (w4.drewN nd) g p4 0 b4 204 p2 (hQ4.drewN nd).rd (hQ4.drewN nd).below
         go_wp2_with (first|((with_reducible refine HC.mono ?_);rintro e w5x ⟨rfl,⟨nd,rfl⟩⟩;(have hsd:(w4.drewN nd).heap.size=w4.heap.size:=rfl);(have hQd:=hQ4.drewN nd);obtain ⟨f0,f1,f2,f3,f4,f5,f6,fz⟩:=aZL hQd.blk)|((with_reducible refine (HFl _).mono ?_);rintro e w5 ⟨rfl,hI5,hB5,hK5⟩;rw [if_pos trivial] at hI5;(have hQ5:=(hQ4.drewN nd).call hgl hG hne hI5 hB5 hK5);(have hxM5:=Kd.R_keep (Kd.R_drewN hxM nd) hK5 (fun q hq=>by omega));(have hsz5:w4.heap.size≤w5.heap.size:=hK5.1);obtain ⟨t0,t1,t2,t3,t4,t5,t6,tz⟩:=aZL hQ5.blk)|((with_reducible refine aZh (b:=.append) (xs:=#[.tmp 136,.tmp 138]) rfl ?_);at_builtin;refine Kd.R_append (Kd.slice 3 (Kd.int .i64)) (w0:=w5) w.heap.size rfl (.tmp 136) (.tmp 138) 25 23 (.slice none 0 0) 24 rfl Try.underlying25 info23 rfl (by decide) (by omega) (.slice (some ad) acc.length co) acc x [.slice Ax x.length cx] (fun k=>w.heap.size≤k) (fun k=>wr.heap.size≤k) rfl rfl (Kd.M_row hxM5) (fun q hq=>⟨by omega,fun e=>by have:=hold q e.symm;omega⟩) (fun q hq=>by (have hq2:w5.heap.size≤q:=hq);omega) hQ5.rM (Below.refl _ _) (show w.heap.size≤w5.heap.size by omega) hl5 ?_;intro out2 w6 hrow6 hb6 hg6 _;obtain ⟨A6,c6,rfl⟩:=Kd.R_slice hrow6;obtain ⟨hG6,hQ6⟩:=hQ5.addM hgl hG hne hw hGw hrow6 hg6;(rw [show (acc++[x]).length=acc.length+1 by simp] at hQ6);obtain ⟨r0,r1,r2,r3,r4,r5,r6,rz⟩:=aZL hG6))
         go_roundw
         case rel=>exact ⟨j+1,_,_,p4,204,p2,by go_num,hQ6,⟨by omega,by rw [List.length_append,hfar.len];rfl,fun h=>absurd h (by decide),fun _=>.inl ⟨hkb,HL2.out⟩⟩⟩
         case measure=>simp [intOf];omega
       ·
        have d1:decide ((0:Int)<(j:Int))=false:=decide_eq_false (by omega)
        have d2:decide (0<j)=false:=decide_eq_false hj
        have hfar2:=fin (fun hh=>by have:=hh.1;have:=hfar.len;omega)
        clear hj fin HL
        go_wp2_with (((with_reducible refine aZh (b:=.append) (xs:=#[.tmp 136,.tmp 138]) rfl ?_);at_builtin;refine Kd.R_append (Kd.slice 3 (Kd.int .i64)) (w0:=w4) w.heap.size rfl (.tmp 136) (.tmp 138) 25 23 (.slice none 0 0) 24 rfl Try.underlying25 info23 rfl (by decide) (by omega) v acc x [.slice Ax x.length cx] (fun k=>w.heap.size≤k) (fun k=>wr.heap.size≤k) rfl rfl (Kd.M_row hxM) (fun q hq=>⟨by omega,fun e=>by have:=hold q e.symm;omega⟩) (fun q hq=>by (have hq2:w4.heap.size≤q:=hq);omega) hQ4.rM (Below.refl _ _) (show w.heap.size≤w4.heap.size by omega) hl5 ?_;intro out2 w6 hrow6 hb6 hg6 _;obtain ⟨A6,c6,rfl⟩:=Kd.R_slice hrow6;obtain ⟨hG6,hQ6⟩:=hQ4.addM hgl hG hne hw hGw hrow6 hg6;(rw [show (acc++[x]).length=acc.length+1 by simp] at hQ6);obtain ⟨r0,r1,r2,r3,r4,r5,r6,rz⟩:=aZL hG6))
        go_roundw
        case rel=>exact ⟨j+1,_,_,p4,0,b4,by go_num,hQ6,hfar2⟩
        case measure=>simp [intOf];omega
     ·
      have hst:=hfar.stk hgo
      by_cases hjn:(j:Int)<(m:Int)
      ·
       have hk2:(k2 == 0)=false:=by rw [beq_eq_false_iff_ne];intro e;exact hgo ⟨by omega,e⟩
       have hfin:=eZf hstS h hlS (hs5.then hp2 (L:=fun n q=>aZr [] (bZr bs) (cmpL cmpI) n.toNat q []) rfl (by rw [show ((m:Int).toNat)=m from Int.toNat_natCast m,HF2.out];exact hst))
       clear hst hfar hgo
       go_wp2_with (fail)
       refine bodyPost_end (results_none Try.results64 _ _ _) rfl ⟨rfl,_,_,_,_,_,_,_,hS,hfin⟩
      ·
       have hk2:True:=trivial
       have hfin:=eZf hstS h hlS (hs5.then hp2 (L:=fun n q=>aZr [] (bZr bs) (cmpL cmpI) n.toNat q []) rfl (by rw [show ((m:Int).toNat)=m from Int.toNat_natCast m,HF2.out];exact hst))
       clear hst hfar hgo
       go_wp2_with (fail)
       refine bodyPost_end (results_none Try.results64 _ _ _) rfl ⟨rfl,_,_,_,_,_,_,_,hS,hfin⟩
end Go.Proofs.Ytbnplhmmbnmagaa.D
