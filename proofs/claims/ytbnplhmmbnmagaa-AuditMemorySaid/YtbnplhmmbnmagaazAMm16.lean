/- The reference's reader: sets (printed by gen_k6.py). -/
import Derived.Test.YtbnplhmmbnmagaazAMm15
set_option maxHeartbeats 4000000
set_option maxRecDepth 100000
set_option linter.all false
namespace Go.Proofs.Ytbnplhmmbnmagaa.D
open Go.RowKit Go.Proofs.YtbnplhmmbnmagaaW.PrintWords Go.Proofs.YtbnplhmmbnmagaaW.PrintLast Go.Proofs.YtbnplhmmbnmagaaW.PrintMore Go.Proofs.Ytbnplhmmbnmagaa.All
set_option linter.unusedSectionVars false
def fZE (bs:List Int) (nT nN:Nat) (p:Int):Except (Int × Int) ((List (List ByteArray) × List (List Int)) × Int) :=
  match aZQ [] (bZc bs) (cmpL cmpS) bs p 0 (4096 - nT - nN) with
  | .error f=>.error f
  | .ok (S,q)=>match aZQ [] (bZt bs) (cmpL cmpI) bs q 0 (4096 - nT - nN - S.length) with
    | .error f=>.error f
    | .ok (M,q)=>.ok ((S,M),q)
theorem Stk.then {α:Type} {bs:List Int} {p k b lo hi x p2 k2 b2:Int} (hs:Stk p k b (aZn bs p lo hi) x p2 k2 b2) (h:k=0→0≤p∧p≤bs.length) {y:α} {p3 k3 b3:Int} {r:Except (Int × Int) (α × Int)} {L:Int→Int→Except (Int × Int) (α × Int)} (hr:r=match aZn bs p lo hi with | .error f=>.error f | .ok (n,q)=>L n q) (h2:Stk p2 k2 b2 (L x p2) y p3 k3 b3):Stk p k b r y p3 k3 b3:=by
 refine ⟨fun hk=>?_,fun hk=>?_⟩
 ·
  have h1:=hs.1 hk
  subst hr
  cases hc:aZn bs p lo hi with
  | error f =>
   obtain ⟨kk,q⟩:=f
   rw [hc] at h1
   obtain ⟨rfl,rfl⟩:=h1
   have h3:=(aZu bs lo hi p (h hk).1 (h hk).2).1 _ _ hc
   obtain ⟨rfl,rfl,rfl⟩:=h2.2 (by omega)
   exact ⟨rfl,rfl⟩
  | ok z =>
   obtain ⟨z,q⟩:=z
   rw [hc] at h1
   obtain ⟨rfl,rfl,hk2,rfl⟩:=h1
   exact h2.1 hk2
 ·
  obtain ⟨rfl,rfl,rfl⟩:=hs.2 hk
  exact h2.2 hk
structure StQr (w0 w W:World) (g G:Nat) (bs:List Int) (p k b:Int) (vT vN vS vM vC d l:Value) (S:List (List ByteArray)) (M:List (List Int)):Prop where
  rd:IsS136 w0 W g bs p k b
  below:Below w0.heap.size w0 W
  keep:KeepBut w W g (some G)
  blk:W.heap[G]?=some (.cells #[vT,vN,vS,vM,vC,d,l] 28 (0,0))
  rS:(Kd.slice 9 Kd.string).R 22 W w.heap.size (fun k=>w.heap.size≤k) vS S
  rM:(Kd.slice 3 (Kd.int .i64)).R 23 W w.heap.size (fun k=>w.heap.size≤k) vM M
theorem aZO {W:World} {B:Nat} {a b c d e f g:Value} (h:W.heap[B]?=some (.cells #[a,b,c,d,e,f,g] 28 (0,0))):W.cell? ⟨B,0,none⟩=some a∧W.cell? ⟨B,1,none⟩=some b∧W.cell? ⟨B,2,none⟩=some c∧W.cell? ⟨B,3,none⟩=some d∧W.cell? ⟨B,4,none⟩=some e∧W.cell? ⟨B,5,none⟩=some f∧W.cell? ⟨B,6,none⟩=some g∧∀ i,W.frozen? ⟨B,i,none⟩=false:=by
  obtain ⟨h0,h1,h2,h3,h4,h5,h6⟩:=iZl h
  exact ⟨h0,h1,h2,h3,h4,h5,h6,fun i=>by simp [World.frozen?,h]⟩
section
variable {w0 w W W2:World} {g G:Nat} {bs:List Int} {p k b p2 k2 b2:Int} {vT vN vS vM vC d l:Value} {S:List (List ByteArray)} {M:List (List Int)}
theorem StQr.call (h:StQr w0 w W g G bs p k b vT vN vS vM vC d l S M) (hg:g<w.heap.size) (hG:G<w.heap.size) (hne:g≠G) (hI:IsS136 w0 W2 g bs p2 k2 b2) (hB:Below w0.heap.size w0 W2) (hK:KeepBut W W2 g none):StQr w0 w W2 g G bs p2 k2 b2 vT vN vS vM vC d l S M :=
  ⟨hI, hB, ⟨Nat.le_trans h.keep.1 hK.1, fun j hj h1 h2 => (hK.2 j (by have := h.keep.1; omega) h1 (by simp)).trans (h.keep.2 j hj h1 h2)⟩, (hK.2 G (aZd h.blk) (fun e => hne e.symm) (by simp)).trans h.blk,
    Kd.R_keep h.rS hK (fun j hj=>by omega),Kd.R_keep h.rM hK (fun j hj=>by omega)⟩
theorem StQr.drew (h:StQr w0 w W g G bs p k b vT vN vS vM vC d l S M):StQr w0 w W.drew g G bs p k b vT vN vS vM vC d l S M:=⟨h.rd.drew,h.below.drew,h.keep,h.blk,Kd.R_drew h.rS,Kd.R_drew h.rM⟩
theorem StQr.drewN (h:StQr w0 w W g G bs p k b vT vN vS vM vC d l S M) (n:Nat):StQr w0 w (W.drewN n) g G bs p k b vT vN vS vM vC d l S M:=⟨h.rd.drewN n,aZb h.below n,h.keep,h.blk,Kd.R_drewN h.rS n,Kd.R_drewN h.rM n⟩
theorem StQr.addS (h:StQr w0 w W g G bs p k b vT vN vS vM vC d l S M) (hg:g<w.heap.size) (hG:G<w.heap.size) (hne:g≠G) (hw:w0.heap.size≤w.heap.size) (hGw:w0.heap.size≤G) {v2:Value} {S2:List (List ByteArray)} (hr:(Kd.slice 9 Kd.string).R 22 W2 w.heap.size (fun k=>w.heap.size≤k) v2 S2) (hgr:W.grownBy W2 vS.ownBlock) :
 W2.heap[G]?=some (.cells #[vT,vN,vS,vM,vC,d,l] 28 (0,0))∧StQr w0 w (W2.setCell ⟨G,2,none⟩ v2) g G bs p k b vT vN v2 vM vC d l S2 M:=by
 have hb:=Kd.R_base h.rS
 have hGb:W2.heap[G]?=some (.cells #[vT,vN,vS,vM,vC,d,l] 28 (0,0)):=(hgr.block G (aZd h.blk) (fun e=>by have:=hb G e.symm;omega)).trans h.blk
 have hgn:some g≠vS.ownBlock:=fun e=>by have:=hb g e.symm;omega
 refine ⟨hGb,⟨(h.rd.grown hgr hgn).far hne _,(h.below.grown hgr (by have:=h.keep.1;omega) (fun j hj=>by have:=hb j hj;omega)).setCell (show w0.heap.size≤G from hGw) _,?_,?_,?_,?_⟩⟩
 ·
  refine ⟨by have:=hgr.size;have:=h.keep.1;simp;omega,fun j hj h1 h2=>?_⟩
  rw [Below.heap_setCell _ _ _ _ (fun e=>h2 (by rw [e])),hgr.block j (by have:=h.keep.1;omega) (fun e=>by have:=hb j e.symm;omega)]
  exact h.keep.2 j hj h1 h2
 · simp [World.setCell,hGb,Array.getElem?_modify]
 · exact Kd.R_step hr (fun j hj _=>Below.heap_setCell _ _ _ _ (by show j≠G;omega))
 · refine Kd.R_step (w:=W2) (Kd.R_over' h.rM (Kd.R_typed h.rS) (by decide) hgr) (fun j hj _=>Below.heap_setCell _ _ _ _ (by show j≠G;omega))
theorem StQr.addM (h:StQr w0 w W g G bs p k b vT vN vS vM vC d l S M) (hg:g<w.heap.size) (hG:G<w.heap.size) (hne:g≠G) (hw:w0.heap.size≤w.heap.size) (hGw:w0.heap.size≤G) {v2:Value} {M2:List (List Int)} (hr:(Kd.slice 3 (Kd.int .i64)).R 23 W2 w.heap.size (fun k=>w.heap.size≤k) v2 M2) (hgr:W.grownBy W2 vM.ownBlock) :
 W2.heap[G]?=some (.cells #[vT,vN,vS,vM,vC,d,l] 28 (0,0))∧StQr w0 w (W2.setCell ⟨G,3,none⟩ v2) g G bs p k b vT vN vS v2 vC d l S M2:=by
 have hb:=Kd.R_base h.rM
 have hGb:W2.heap[G]?=some (.cells #[vT,vN,vS,vM,vC,d,l] 28 (0,0)):=(hgr.block G (aZd h.blk) (fun e=>by have:=hb G e.symm;omega)).trans h.blk
 have hgn:some g≠vM.ownBlock:=fun e=>by have:=hb g e.symm;omega
 refine ⟨hGb,⟨(h.rd.grown hgr hgn).far hne _,(h.below.grown hgr (by have:=h.keep.1;omega) (fun j hj=>by have:=hb j hj;omega)).setCell (show w0.heap.size≤G from hGw) _,?_,?_,?_,?_⟩⟩
 ·
  refine ⟨by have:=hgr.size;have:=h.keep.1;simp;omega,fun j hj h1 h2=>?_⟩
  rw [Below.heap_setCell _ _ _ _ (fun e=>h2 (by rw [e])),hgr.block j (by have:=h.keep.1;omega) (fun e=>by have:=hb j e.symm;omega)]
  exact h.keep.2 j hj h1 h2
 · simp [World.setCell,hGb,Array.getElem?_modify]
 · refine Kd.R_step (w:=W2) (Kd.R_over' h.rS (Kd.R_typed h.rM) (by decide) hgr) (fun j hj _=>Below.heap_setCell _ _ _ _ (by show j≠G;omega))
 · exact Kd.R_step hr (fun j hj _=>Below.heap_setCell _ _ _ _ (by show j≠G;omega))
end
structure Far {α:Type} (p k b:Int) (bs:List Int) (n j:Nat) (F:Except (Int × Int) (List α × Int)) (L:Nat→Int→List α→Except (Int × Int) (List α × Int)) (acc:List α) (p2 k2 b2:Int):Prop where
  le:j≤n
  len:acc.length=j
  good:k2=0→k=0∧0≤p2∧p2≤bs.length∧b2=b∧L (n - j) p2 acc=F
  bad:k2≠0→(k=0∧F=.error (k2,b2))∨(k≠0∧p2=p∧k2=k∧b2=b)
theorem Far.stk {α:Type} {p k b:Int} {bs:List Int} {n j:Nat} {F:Except (Int × Int) (List α × Int)} {z:α} {one:Int→Except (Int × Int) (α × Int)} {cmp:α→α→Int} {acc:List α} {p2 k2 b2:Int} (h:Far p k b bs n j F (aZr z one cmp) acc p2 k2 b2) (he:¬(j<n∧k2=0)):Stk p k b F acc p2 k2 b2:=by
 refine ⟨fun hk=>?_,fun hk=>?_⟩
 ·
  by_cases hk2:k2=0
  ·
   obtain ⟨_,_,_,e,hL⟩:=h.good hk2
   have hj:j=n:=by
    have:=h.le
    by_cases hjn:j<n
    · exact absurd ⟨hjn,hk2⟩ he
    · omega
   rw [hj,Nat.sub_self] at hL
   rw [←hL]
   exact ⟨rfl,rfl,hk2,e⟩
  ·
   rcases h.bad hk2 with ⟨_,e⟩ | ⟨e,_⟩
   · rw [e];exact ⟨rfl,rfl⟩
   · exact absurd hk e
 ·
  by_cases hk2:k2=0
  · exact absurd (h.good hk2).1 hk
  ·
   rcases h.bad hk2 with ⟨e,_⟩ | ⟨_,e⟩
   · exact absurd e hk
   · exact e
theorem eZn {bs:List Int} {nT nN n:Nat} {p k b pS kS bS p2 k2 b2:Int} {S:List (List ByteArray)} {M:List (List Int)} (h1:Stk p k b (aZQ [] (bZc bs) (cmpL cmpS) bs p 0 (4096 - nT - nN)) S pS kS bS) (h0:k=0→0≤p∧p≤bs.length) (hl:kS=0→S.length=n)
 (h2:Stk pS kS bS (aZQ [] (bZt bs) (cmpL cmpI) bs pS 0 (4096 - nT - nN - n)) M p2 k2 b2):Stk p k b (fZE bs nT nN p) (S,M) p2 k2 b2:=by
 refine ⟨fun hk=>?_,fun hk=>?_⟩
 ·
  have g1:=h1.1 hk
  unfold fZE
  cases hc:aZQ [] (bZc bs) (cmpL cmpS) bs p 0 (4096 - nT - nN) with
  | error f =>
   obtain ⟨kk,q⟩:=f
   rw [hc] at g1
   obtain ⟨rfl,rfl⟩:=g1
   have ht:=(bZr [] (cmpL cmpS) (cZg bs) 0 (4096 - nT - nN) p (h0 hk).1 (h0 hk).2).1 _ _ hc
   obtain ⟨rfl,rfl,rfl⟩:=h2.2 (by omega)
   exact ⟨rfl,rfl⟩
  | ok y =>
   obtain ⟨y,q⟩:=y
   rw [hc] at g1
   obtain ⟨rfl,rfl,hkS,rfl⟩:=g1
   have g2:=h2.1 hkS
   dsimp only
   rw [hl hkS]
   cases hc2:aZQ [] (bZt bs) (cmpL cmpI) bs pS 0 (4096 - nT - nN - n) with
   | error f =>
    obtain ⟨kk,q⟩:=f
    rw [hc2] at g2
    exact g2
   | ok z =>
    obtain ⟨z,q⟩:=z
    rw [hc2] at g2
    obtain ⟨rfl,e2,e3,e4⟩:=g2
    exact ⟨rfl,e2,e3,e4⟩
 ·
  obtain ⟨rfl,rfl,rfl⟩:=h1.2 hk
  exact h2.2 hk
theorem rSets (bs:List Int) (hb:bZ9 bs) (hlen:bs.length≤200000000000000) (w0 w:World) (g G:Nat) (p k b:Int) (hI:IsS136 w0 w g bs p k b) (hB:Below w0.heap.size w0 w) (h:k=0→0≤p∧p≤bs.length) (hG:G<w.heap.size) (hne:g≠G) (hGw:w0.heap.size≤G)
 (AT AN:Option Addr) (cT cN nT nN:Nat) (vC d l:Value) (hnn:nT≤5000∧nN≤5000) (hn:k=0→nT+nN≤4096) (hblk:w.heap[G]?=some (.cells #[.slice AT nT cT,.slice AN nN cN,.slice none 0 0,.slice none 0 0,vC,d,l] 28 (0,0))) :
 Calls Try.prog 64 #[.pointer (some ⟨g,0,none⟩),.pointer (some ⟨G,0,none⟩)] w fun e w'=>e=.returned (.tuple #[])∧∃ vS vM S M p2 k2 b2,StQr w0 w w' g G bs p2 k2 b2 (.slice AT nT cT) (.slice AN nN cN) vS vM vC d l S M∧Stk p k b (fZE bs nT nN p) (S,M) p2 k2 b2:=by
 have hgl:=hI.lt
 have hw:=hB.size
 have hS0:StQr w0 w w g G bs p k b (.slice AT nT cT) (.slice AN nN cN) (.slice none 0 0) (.slice none 0 0) vC d l [] [] :=
  ⟨hI,hB,⟨Nat.le_refl _,fun _ _ _ _=>rfl⟩,hblk,Kd.R_nil _ _ _ _ _,Kd.R_nil _ _ _ _ _⟩
 clear hI hB hblk
 have e1:wrap64 (4096 - (nT:Int))=4096 - nT:=bZT _ (by omega) (by omega)
 have e2:wrap64 (4096 - (nT:Int) - (nN:Int))=4096 - nT - nN:=bZT _ (by omega) (by omega)
 obtain ⟨q0,q1,q2,q3,q4,q5,q6,qz⟩:=aZO hS0.blk
 go_enter Try.func64,Try.ntmps64
 go_wp2_with (fail)
 go_region
 clear e1 e2 q0 q1 q2 q3 q4 q5 q6 qz
 have hS1:=hS0.drew
 clear hS0
 go_wp2_with (fail)
 refine (bZ4 bs hb hlen w0 w.drew g p k b hS1.rd hS1.below h 0 (4096 - (nT:Int) - (nN:Int))).mono ?_
 rintro e w1 ⟨x0,p1,k1,b1,rfl,hI1,hB1,hK1,hs1,hz1⟩
 have hS2:=hS1.call hgl hG hne hI1 hB1 hK1
 clear hS1 hI1 hB1 hK1
 have hx0:0≤x0∧x0≤4096:=by
  by_cases hk1:k1=0
  ·
   obtain ⟨_,_,_,a1,a2,_⟩:=hs1.got h hk1
   omega
  · rw [hz1 hk1];omega
 obtain ⟨n,rfl⟩:=Int.eq_ofNat_of_zero_le hx0.1
 have hp1:k1=0→0≤p1∧p1≤bs.length:=fun hk1=>by
  obtain ⟨_,_,_,_,_,a1,a2⟩:=hs1.got h hk1
  have:=(hs1.got h hk1).1
  have:=h this
  omega
 generalize hF:aZr [] (bZc bs) (cmpL cmpS) n p1 []=F1
 have HF1:=hid_ hF;clear hF
 have hfar0:Far p1 k1 b1 bs n 0 F1 (aZr [] (bZc bs) (cmpL cmpS)) [] p1 k1 b1:=⟨Nat.zero_le _,rfl,fun hk=>⟨hk,(hp1 hk).1,(hp1 hk).2,rfl,HF1.out⟩,fun hk=>.inr ⟨hk,rfl,rfl,rfl⟩⟩
 go_wp2_with (fail)
 go_loopw [6] (fun i wr=>∃ (j:Nat) (v:Value) (acc:List (List ByteArray)) (p2 k2 b2:Int),i=.int .i64 j∧StQr w0 w wr g G bs p2 k2 b2 (.slice AT nT cT) (.slice AN nN cN) v (.slice none 0 0) vC d l acc []∧Far p1 k1 b1 bs n j F1 (aZr [] (bZc bs) (cmpL cmpS)) acc p2 k2 b2) (fun i _=>n - (intOf i).toNat)
 case atStart=>exact ⟨0,_,[],p1,k1,b1,rfl,hS2,hfar0⟩
 case round =>
  clear hS2 hfar0
  obtain ⟨j,v,acc,p2,k2,b2,rfl,hS,hfar⟩:=hrel
  have hle:=hfar.le
  obtain ⟨A,c,a0,a1,a2,a3,az,hc,hC⟩:=aZX hS.rd
  clear a0 a3 az hc hC
  by_cases hgo:j<n∧k2=0
  ·
   obtain ⟨hjn,rfl⟩:=hgo
   obtain ⟨hkb,hp0,hp1,hbb,hL⟩:=hfar.good rfl
   have d0:(j:Int)<(n:Int):=by omega
   go_wp2_with (fail)
   refine (bZ4 bs hb hlen w0 wr g p2 0 b2 hS.rd hS.below (fun _=>⟨hp0,hp1⟩) 1 1000).mono ?_
   rintro e w2 ⟨y0,p3,k3,b3,rfl,hI3,hB3,hK3,hs3,hz3⟩
   have hQ3:=hS.call hgl hG hne hI3 hB3 hK3
   have hy:0≤y0∧y0≤1000:=by
    by_cases hk3:k3=0
    ·
     obtain ⟨_,_,_,z1,z2,_⟩:=hs3.got (fun _=>⟨hp0,hp1⟩) hk3
     omega
    · rw [hz3 hk3];omega
   obtain ⟨y,rfl⟩:=Int.eq_ofNat_of_zero_le hy.1
   have hp3:k3=0→0≤p3∧p3≤bs.length:=fun hk3=>by
    obtain ⟨_,_,_,_,_,z1,z2⟩:=hs3.got (fun _=>⟨hp0,hp1⟩) hk3
    omega
   clear a1 a2 hI3 hB3
   go_wp2_with (fail)
   refine (rTexts bs hb hlen w0 w2 g p3 k3 b3 hQ3.rd hQ3.below hp3 y (by omega)).mono ?_
   rintro e w4 ⟨vx,x,p4,k4,b4,rfl,hx,hI4,hB4,hK4,hs4⟩
   have hQ4:=hQ3.call hgl hG hne hI4 hB4 hK4
   have hst:Stk p2 0 b2 (bZc bs p2) x p4 k4 b4:=hs3.then (fun _=>⟨hp0,hp1⟩) (L:=fun n q=>aZr ByteArray.empty (bZh bs) cmpS n.toNat q []) rfl hs4
   have hsz2:wr.heap.size≤w2.heap.size:=hK3.1
   have hsz4:w2.heap.size≤w4.heap.size:=hK4.1
   have hszr:=hS.keep.1
   have hold:=Kd.R_lt hS.rS
   have hxM:=Kd.R_mono (Kd.R_lower (Kd.R_bound hx) (show w.heap.size≤w2.heap.size by omega)) (ok':=fun k=>wr.heap.size≤k) (fun _ hk=>by have:=hk.2.1;omega)
   clear hQ3 hs3 hs4 hz3 hI4 hB4 hx hp3
   obtain ⟨Ax,cx,rfl,hcx,hCx⟩:=Kd.R_reads hxM
   have hl5:(acc.length+1)*24≤140737488355328:=by have:=hfar.len;omega
   obtain ⟨A,c,a0,a1,a2,a3,az,hc,hC⟩:=aZX hQ4.rd
   obtain ⟨q0,q1,q2,q3,q4,q5,q6,qz⟩:=aZO hQ4.blk
   clear a0 a1 a3 az hc hC q0 q1 q3 q4 q5 q6
   rw [show n - j=(n - j - 1)+1 by omega] at hL
   unfold aZr at hL
   cases ht:bZc bs p2 with
   | error f =>
    obtain ⟨kk,q⟩:=f
    rw [ht] at hst hL
    obtain ⟨e1,e2⟩:=hst.1 rfl
    subst e1 e2
    have h200:=(cZg bs p2 hp0 hp1).1 _ _ ht
    have hk4:(k4 == 0)=false:=by rw [beq_eq_false_iff_ne];omega
    have hfar2:Far p1 k1 b1 bs n (j+1) F1 (aZr [] (bZc bs) (cmpL cmpS)) (acc++[x]) p4 k4 b4:=⟨by omega,by rw [List.length_append,hfar.len];rfl,fun h=>by omega,fun _=>.inl ⟨hkb,hL.symm⟩⟩
    clear hL ht hst
    by_cases hj:0<j
    ·
     have d1:decide ((0:Int)<(j:Int))=true:=decide_eq_true (by omega)
     have d2:decide (0<j)=true:=decide_eq_true hj
     clear hj
     go_wp2_with (((with_reducible refine aZh (b:=.append) (xs:=#[.tmp 76,.tmp 78]) rfl ?_);at_builtin;refine Kd.R_append (Kd.slice 9 Kd.string) (w0:=w4) w.heap.size rfl (.tmp 76) (.tmp 78) 24 22 (.slice none 0 0) 24 rfl Try.underlying24 info22 rfl (by decide) (by omega) v acc x [.slice Ax x.length cx] (fun k=>w.heap.size≤k) (fun k=>wr.heap.size≤k) rfl rfl (Kd.M_row hxM) (fun q hq=>⟨by omega,fun e=>by have:=hold q e.symm;omega⟩) (fun q hq=>by (have hq2:w4.heap.size≤q:=hq);omega) hQ4.rS (Below.refl _ _) (show w.heap.size≤w4.heap.size by omega) hl5 ?_;intro out2 w6 hrow6 hb6 hg6 _;obtain ⟨A6,c6,rfl⟩:=Kd.R_slice hrow6;obtain ⟨hG6,hQ6⟩:=hQ4.addS hgl hG hne hw hGw hrow6 hg6;(rw [show (acc++[x]).length=acc.length+1 by simp] at hQ6);obtain ⟨r0,r1,r2,r3,r4,r5,r6,rz⟩:=aZO hG6))
     go_roundw
     case rel=>exact ⟨j+1,_,_,p4,k4,b4,by go_num,hQ6,hfar2⟩
     case measure=>simp [intOf];omega
    ·
     have d1:decide ((0:Int)<(j:Int))=false:=decide_eq_false (by omega)
     have d2:decide (0<j)=false:=decide_eq_false hj
     clear hj
     go_wp2_with (((with_reducible refine aZh (b:=.append) (xs:=#[.tmp 76,.tmp 78]) rfl ?_);at_builtin;refine Kd.R_append (Kd.slice 9 Kd.string) (w0:=w4) w.heap.size rfl (.tmp 76) (.tmp 78) 24 22 (.slice none 0 0) 24 rfl Try.underlying24 info22 rfl (by decide) (by omega) v acc x [.slice Ax x.length cx] (fun k=>w.heap.size≤k) (fun k=>wr.heap.size≤k) rfl rfl (Kd.M_row hxM) (fun q hq=>⟨by omega,fun e=>by have:=hold q e.symm;omega⟩) (fun q hq=>by (have hq2:w4.heap.size≤q:=hq);omega) hQ4.rS (Below.refl _ _) (show w.heap.size≤w4.heap.size by omega) hl5 ?_;intro out2 w6 hrow6 hb6 hg6 _;obtain ⟨A6,c6,rfl⟩:=Kd.R_slice hrow6;obtain ⟨hG6,hQ6⟩:=hQ4.addS hgl hG hne hw hGw hrow6 hg6;(rw [show (acc++[x]).length=acc.length+1 by simp] at hQ6);obtain ⟨r0,r1,r2,r3,r4,r5,r6,rz⟩:=aZO hG6))
     go_roundw
     case rel=>exact ⟨j+1,_,_,p4,k4,b4,by go_num,hQ6,hfar2⟩
     case measure=>simp [intOf];omega
   | ok z =>
    obtain ⟨z,q⟩:=z
    rw [ht] at hst hL
    obtain ⟨e1,e2,e3,e4⟩:=hst.1 rfl
    subst e1 e2 e3 e4
    have h200:=(cZg bs p2 hp0 hp1).2 _ _ ht
    dsimp only at hL
    have HL:=hid_ hL
    clear hL ht hst
    have fin : ¬ (0 < acc.length ∧ 0 ≤ cmpL cmpS (acc.getD (acc.length - 1) []) x) → Far p1 k1 b1 bs n (j + 1) F1 (aZr [] (bZc bs) (cmpL cmpS)) (acc ++ [x]) p4 0 b4 := fun hh => ⟨by omega, by rw [List.length_append, hfar.len]; rfl, fun _ => ⟨hkb, by omega, by omega, hbb, by
     have:=HL.out
     rw [if_neg hh] at this
     rw [show n - (j+1)=n - j - 1 by omega]
     exact this⟩,fun h=>absurd rfl h⟩
    by_cases hj:0<j
    ·
     have d1:decide ((0:Int)<(j:Int))=true:=decide_eq_true (by omega)
     have d2:decide (0<j)=true:=decide_eq_true hj
     obtain ⟨Ao,co,hAo,hco,hCo⟩:=Kd.R_reads hQ4.rS
     subst hAo
     have hal:=hfar.len
     obtain ⟨ad,B0,b0,rfl,hcell,hcap,hKy⟩:=at_L3 hCo ((j - 1:Nat):Int) (by omega) (by omega)
     rw [Int.toNat_natCast] at hcell
     have hyy:hZZ acc ((j - 1:Nat):Int)=acc.getD (acc.length - 1) []:=by unfold hZZ;rw [Int.toNat_natCast,hal]
     rw [hyy] at hcell hcap hKy
     clear hyy
     generalize hy:acc.getD (acc.length - 1) []=yy at hcell hcap hKy fin
     obtain ⟨i,hij⟩:∃ i:Nat,i=j - 1:=⟨_,rfl⟩
     rw [←hij] at hcell
     have di0:0≤(i:Int):=by omega
     have di1:(i:Int)<(acc.length:Int):=by omega
     have ei:wrap64 ((j:Int) - 1)=(i:Int):=by rw [hij];exact dZe j hj (by omega)
     have ej:(j:Int) - 1=(i:Int):=by omega
     have hyl:=lessS_any w4 B0 Ax b0 cx yy x hKy hcap hCx hcx
     clear hij hal
     cases hcmp:decide (0≤cmpL cmpS yy x) with
     | false =>
      have hfar2:=fin (fun hh=>by have:=decide_eq_true hh.2;rw [hcmp] at this;cases this)
      have HC:=hyl hKy.2.1
      rw [hcmp] at HC
      clear fin HL hj hy hcmp hyl
      go_wp2_with (first|((with_reducible refine HC.mono ?_);rintro e w5x ⟨rfl,⟨nd,rfl⟩⟩;(have hQ5:=hQ4.drewN nd);(have hsd:(w4.drewN nd).heap.size=w4.heap.size:=rfl);obtain ⟨t0,t1,t2,t3,t4,t5,t6,tz⟩:=aZO hQ5.blk)|((with_reducible refine aZh (b:=.append) (xs:=#[.tmp 76,.tmp 78]) rfl ?_);at_builtin;refine Kd.R_append (Kd.slice 9 Kd.string) (w0:=w4.drewN nd) w.heap.size rfl (.tmp 76) (.tmp 78) 24 22 (.slice none 0 0) 24 rfl Try.underlying24 info22 rfl (by decide) (by omega) (.slice (some ad) acc.length co) acc x [.slice Ax x.length cx] (fun k=>w.heap.size≤k) (fun k=>wr.heap.size≤k) rfl rfl (Kd.M_drewN (Kd.M_row hxM) nd) (fun q hq=>⟨by omega,fun e=>by have:=hold q e.symm;omega⟩) (fun q hq=>by (have hq2:w4.heap.size≤q:=hq);omega) hQ5.rS (Below.refl _ _) (show w.heap.size≤w4.heap.size by omega) hl5 ?_;intro out2 w6 hrow6 hb6 hg6 _;obtain ⟨A6,c6,rfl⟩:=Kd.R_slice hrow6;obtain ⟨hG6,hQ6⟩:=hQ5.addS hgl hG hne hw hGw hrow6 hg6;(rw [show (acc++[x]).length=acc.length+1 by simp] at hQ6);obtain ⟨r0,r1,r2,r3,r4,r5,r6,rz⟩:=aZO hG6))
      go_roundw
      case rel=>exact ⟨j+1,_,_,p4,0,b4,by go_num,hQ6,hfar2⟩
      case measure=>simp [intOf];omega
     | true =>
      have HL2:Hid (F1=.error (204,p2)):=by
       have:=HL.out
       rw [hy,if_pos ⟨by omega,of_decide_eq_true hcmp⟩] at this
       exact hid_ this.symm
      have HC:=hyl hKy.2.1
      rw [hcmp] at HC
      clear fin HL hj hy hcmp hyl
      have HFl:=fun nd=>fZN bs w0 (w4.drewN nd) g p4 0 b4 204 p2 (hQ4.drewN nd).rd (hQ4.drewN nd).below
      go_wp2_with (first|((with_reducible refine HC.mono ?_);rintro e w5x ⟨rfl,⟨nd,rfl⟩⟩;(have hsd:(w4.drewN nd).heap.size=w4.heap.size:=rfl);(have hQd:=hQ4.drewN nd);obtain ⟨f0,f1,f2,f3,f4,f5,f6,fz⟩:=aZO hQd.blk)|((with_reducible refine (HFl _).mono ?_);rintro e w5 ⟨rfl,hI5,hB5,hK5⟩;rw [if_pos trivial] at hI5;(have hQ5:=(hQ4.drewN nd).call hgl hG hne hI5 hB5 hK5);(have hxM5:=Kd.R_keep (Kd.R_drewN hxM nd) hK5 (fun q hq=>by omega));(have hsz5:w4.heap.size≤w5.heap.size:=hK5.1);obtain ⟨t0,t1,t2,t3,t4,t5,t6,tz⟩:=aZO hQ5.blk)|((with_reducible refine aZh (b:=.append) (xs:=#[.tmp 76,.tmp 78]) rfl ?_);at_builtin;refine Kd.R_append (Kd.slice 9 Kd.string) (w0:=w5) w.heap.size rfl (.tmp 76) (.tmp 78) 24 22 (.slice none 0 0) 24 rfl Try.underlying24 info22 rfl (by decide) (by omega) (.slice (some ad) acc.length co) acc x [.slice Ax x.length cx] (fun k=>w.heap.size≤k) (fun k=>wr.heap.size≤k) rfl rfl (Kd.M_row hxM5) (fun q hq=>⟨by omega,fun e=>by have:=hold q e.symm;omega⟩) (fun q hq=>by (have hq2:w5.heap.size≤q:=hq);omega) hQ5.rS (Below.refl _ _) (show w.heap.size≤w5.heap.size by omega) hl5 ?_;intro out2 w6 hrow6 hb6 hg6 _;obtain ⟨A6,c6,rfl⟩:=Kd.R_slice hrow6;obtain ⟨hG6,hQ6⟩:=hQ5.addS hgl hG hne hw hGw hrow6 hg6;(rw [show (acc++[x]).length=acc.length+1 by simp] at hQ6);obtain ⟨r0,r1,r2,r3,r4,r5,r6,rz⟩:=aZO hG6))
      go_roundw
      case rel=>exact ⟨j+1,_,_,p4,204,p2,by go_num,hQ6,⟨by omega,by rw [List.length_append,hfar.len];rfl,fun h=>absurd h (by decide),fun _=>.inl ⟨hkb,HL2.out⟩⟩⟩
      case measure=>simp [intOf];omega
    ·
     have d1:decide ((0:Int)<(j:Int))=false:=decide_eq_false (by omega)
     have d2:decide (0<j)=false:=decide_eq_false hj
     have hfar2:=fin (fun hh=>by have:=hh.1;have:=hfar.len;omega)
     clear hj fin HL
     go_wp2_with (((with_reducible refine aZh (b:=.append) (xs:=#[.tmp 76,.tmp 78]) rfl ?_);at_builtin;refine Kd.R_append (Kd.slice 9 Kd.string) (w0:=w4) w.heap.size rfl (.tmp 76) (.tmp 78) 24 22 (.slice none 0 0) 24 rfl Try.underlying24 info22 rfl (by decide) (by omega) v acc x [.slice Ax x.length cx] (fun k=>w.heap.size≤k) (fun k=>wr.heap.size≤k) rfl rfl (Kd.M_row hxM) (fun q hq=>⟨by omega,fun e=>by have:=hold q e.symm;omega⟩) (fun q hq=>by (have hq2:w4.heap.size≤q:=hq);omega) hQ4.rS (Below.refl _ _) (show w.heap.size≤w4.heap.size by omega) hl5 ?_;intro out2 w6 hrow6 hb6 hg6 _;obtain ⟨A6,c6,rfl⟩:=Kd.R_slice hrow6;obtain ⟨hG6,hQ6⟩:=hQ4.addS hgl hG hne hw hGw hrow6 hg6;(rw [show (acc++[x]).length=acc.length+1 by simp] at hQ6);obtain ⟨r0,r1,r2,r3,r4,r5,r6,rz⟩:=aZO hG6))
     go_roundw
     case rel=>exact ⟨j+1,_,_,p4,0,b4,by go_num,hQ6,hfar2⟩
     case measure=>simp [intOf];omega
  ·
   have hst:=hfar.stk hgo
   by_cases hjn:(j:Int)<(n:Int)
   ·
    have hk2:(k2 == 0)=false:=by rw [beq_eq_false_iff_ne];intro e;exact hgo ⟨by omega,e⟩
    have hlS:k2=0→acc.length=n:=fun hk=>by
     have:=hfar.len
     by_cases hq:j<n
     · exact absurd ⟨hq,hk⟩ hgo
     · omega
    have hp2:k2=0→0≤p2∧p2≤bs.length:=fun hk=>⟨(hfar.good hk).2.1,(hfar.good hk).2.2.1⟩
    have hstS:Stk p k b (aZQ [] (bZc bs) (cmpL cmpS) bs p 0 (4096 - (nT:Int) - (nN:Int))) acc p2 k2 b2:=hs1.then h (L:=fun n q=>aZr [] (bZc bs) (cmpL cmpS) n.toNat q []) rfl (by rw [show ((n:Int).toNat)=n from Int.toNat_natCast n,HF1.out];exact hst)
    have e5:wrap64 (4096 - (nT:Int) - (nN:Int) - (n:Int))=4096 - nT - nN - n:=bZT _ (by omega) (by omega)
    clear hst hfar hgo
    go_wp2_with (fail)
    clear e5 a1 a2
    refine (bZ4 bs hb hlen w0 wr g p2 k2 b2 hS.rd hS.below hp2 0 (4096 - (nT:Int) - (nN:Int) - (n:Int))).mono ?_
    rintro e w5 ⟨x5,p5,k5,b5,rfl,hI5,hB5,hK5,hs5,hz5⟩
    have hS9:=hS.call hgl hG hne hI5 hB5 hK5
    clear hS hI5 hB5 hK5
    generalize v=vS1 at hS9 ⊢
    generalize acc=S1 at hS9 hstS hlS
    have hx5:0≤x5∧x5≤4096:=by
     by_cases hk5:k5=0
     ·
      obtain ⟨_,_,_,z1,z2,_⟩:=hs5.got hp2 hk5
      omega
     · rw [hz5 hk5];omega
    obtain ⟨m,rfl⟩:=Int.eq_ofNat_of_zero_le hx5.1
    have hp2x:k5=0→0≤p5∧p5≤bs.length:=fun hk5=>by
     obtain ⟨e1,_,_,_,_,z1,z2⟩:=hs5.got hp2 hk5
     have:=hp2 e1
     omega
    generalize hF:aZr [] (bZt bs) (cmpL cmpI) m p5 []=F2
    have HF2:=hid_ hF;clear hF
    have hfar0:Far p5 k5 b5 bs m 0 F2 (aZr [] (bZt bs) (cmpL cmpI)) [] p5 k5 b5:=⟨Nat.zero_le _,rfl,fun hk=>⟨hk,(hp2x hk).1,(hp2x hk).2,rfl,HF2.out⟩,fun hk=>.inr ⟨hk,rfl,rfl,rfl⟩⟩
    go_wp2_with (fail)
    go_loopw [9] (fun i wr=>∃ (j:Nat) (v:Value) (acc:List (List Int)) (p2 k2 b2:Int),i=.int .i64 j∧StQr w0 w wr g G bs p2 k2 b2 (.slice AT nT cT) (.slice AN nN cN) vS1 v vC d l S1 acc∧Far p5 k5 b5 bs m j F2 (aZr [] (bZt bs) (cmpL cmpI)) acc p2 k2 b2) (fun i _=>m - (intOf i).toNat)
    case atStart=>exact ⟨0,_,[],p5,k5,b5,rfl,hS9,hfar0⟩
    case round =>
     clear hS9 hfar0
     obtain ⟨j,v,acc,p2,k2,b2,rfl,hS,hfar⟩:=hrel
     have hle:=hfar.le
     obtain ⟨A,c,a0,a1,a2,a3,az,hc,hC⟩:=aZX hS.rd
     clear a0 a3 az hc hC
     by_cases hgo:j<m∧k2=0
     ·
      obtain ⟨hjn,rfl⟩:=hgo
      obtain ⟨hkb,hp0,hp1,hbb,hL⟩:=hfar.good rfl
      have d0:(j:Int)<(m:Int):=by omega
      go_wp2_with (fail)
      refine (bZ4 bs hb hlen w0 wr g p2 0 b2 hS.rd hS.below (fun _=>⟨hp0,hp1⟩) 1 1000).mono ?_
      rintro e w2 ⟨y0,p3,k3,b3,rfl,hI3,hB3,hK3,hs3,hz3⟩
      have hQ3:=hS.call hgl hG hne hI3 hB3 hK3
      have hy:0≤y0∧y0≤1000:=by
       by_cases hk3:k3=0
       ·
        obtain ⟨_,_,_,z1,z2,_⟩:=hs3.got (fun _=>⟨hp0,hp1⟩) hk3
        omega
       · rw [hz3 hk3];omega
      obtain ⟨y,rfl⟩:=Int.eq_ofNat_of_zero_le hy.1
      have hp3:k3=0→0≤p3∧p3≤bs.length:=fun hk3=>by
       obtain ⟨_,_,_,_,_,z1,z2⟩:=hs3.got (fun _=>⟨hp0,hp1⟩) hk3
       omega
      clear a1 a2 hI3 hB3
      go_wp2_with (fail)
      refine (rNums bs hb hlen w0 w2 g p3 k3 b3 hQ3.rd hQ3.below hp3 y (by omega)).mono ?_
      rintro e w4 ⟨vx,x,p4,k4,b4,rfl,hx,hI4,hB4,hK4,hs4⟩
      have hQ4:=hQ3.call hgl hG hne hI4 hB4 hK4
      have hst:Stk p2 0 b2 (bZt bs p2) x p4 k4 b4:=hs3.then (fun _=>⟨hp0,hp1⟩) (L:=fun n q=>aZr 0 (numF bs) cmpI n.toNat q []) rfl hs4
      have hsz2:wr.heap.size≤w2.heap.size:=hK3.1
      have hsz4:w2.heap.size≤w4.heap.size:=hK4.1
      have hszr:=hS.keep.1
      have hold:=Kd.R_lt hS.rM
      have hxM:=Kd.R_mono (Kd.R_lower (Kd.R_bound hx) (show w.heap.size≤w2.heap.size by omega)) (ok':=fun k=>wr.heap.size≤k) (fun _ hk=>by have:=hk.2.1;omega)
      clear hQ3 hs3 hs4 hz3 hI4 hB4 hx hp3
      obtain ⟨Ax,cx,rfl,hcx,hCx⟩:=Kd.R_reads hxM
      have hl5:(acc.length+1)*24≤140737488355328:=by have:=hfar.len;omega
      obtain ⟨A,c,a0,a1,a2,a3,az,hc,hC⟩:=aZX hQ4.rd
      obtain ⟨q0,q1,q2,q3,q4,q5,q6,qz⟩:=aZO hQ4.blk
      clear a0 a1 a3 az hc hC q0 q1 q2 q4 q5 q6
      rw [show m - j=(m - j - 1)+1 by omega] at hL
      unfold aZr at hL
      cases ht:bZt bs p2 with
      | error f =>
       obtain ⟨kk,q⟩:=f
       rw [ht] at hst hL
       obtain ⟨e1,e2⟩:=hst.1 rfl
       subst e1 e2
       have h200:=(cZf bs p2 hp0 hp1).1 _ _ ht
       have hk4:(k4 == 0)=false:=by rw [beq_eq_false_iff_ne];omega
       have hfar2:Far p5 k5 b5 bs m (j+1) F2 (aZr [] (bZt bs) (cmpL cmpI)) (acc++[x]) p4 k4 b4:=⟨by omega,by rw [List.length_append,hfar.len];rfl,fun h=>by omega,fun _=>.inl ⟨hkb,hL.symm⟩⟩
       clear hL ht hst
       by_cases hj:0<j
       ·
        have d1:decide ((0:Int)<(j:Int))=true:=decide_eq_true (by omega)
        have d2:decide (0<j)=true:=decide_eq_true hj
        clear hj
        go_wp2_with (((with_reducible refine aZh (b:=.append) (xs:=#[.tmp 136,.tmp 138]) rfl ?_);at_builtin;refine Kd.R_append (Kd.slice 3 (Kd.int .i64)) (w0:=w4) w.heap.size rfl (.tmp 136) (.tmp 138) 25 23 (.slice none 0 0) 24 rfl Try.underlying25 info23 rfl (by decide) (by omega) v acc x [.slice Ax x.length cx] (fun k=>w.heap.size≤k) (fun k=>wr.heap.size≤k) rfl rfl (Kd.M_row hxM) (fun q hq=>⟨by omega,fun e=>by have:=hold q e.symm;omega⟩) (fun q hq=>by (have hq2:w4.heap.size≤q:=hq);omega) hQ4.rM (Below.refl _ _) (show w.heap.size≤w4.heap.size by omega) hl5 ?_;intro out2 w6 hrow6 hb6 hg6 _;obtain ⟨A6,c6,rfl⟩:=Kd.R_slice hrow6;obtain ⟨hG6,hQ6⟩:=hQ4.addM hgl hG hne hw hGw hrow6 hg6;(rw [show (acc++[x]).length=acc.length+1 by simp] at hQ6);obtain ⟨r0,r1,r2,r3,r4,r5,r6,rz⟩:=aZO hG6))
        go_roundw
        case rel=>exact ⟨j+1,_,_,p4,k4,b4,by go_num,hQ6,hfar2⟩
        case measure=>simp [intOf];omega
       ·
        have d1:decide ((0:Int)<(j:Int))=false:=decide_eq_false (by omega)
        have d2:decide (0<j)=false:=decide_eq_false hj
        clear hj
        go_wp2_with (((with_reducible refine aZh (b:=.append) (xs:=#[.tmp 136,.tmp 138]) rfl ?_);at_builtin;refine Kd.R_append (Kd.slice 3 (Kd.int .i64)) (w0:=w4) w.heap.size rfl (.tmp 136) (.tmp 138) 25 23 (.slice none 0 0) 24 rfl Try.underlying25 info23 rfl (by decide) (by omega) v acc x [.slice Ax x.length cx] (fun k=>w.heap.size≤k) (fun k=>wr.heap.size≤k) rfl rfl (Kd.M_row hxM) (fun q hq=>⟨by omega,fun e=>by have:=hold q e.symm;omega⟩) (fun q hq=>by (have hq2:w4.heap.size≤q:=hq);omega) hQ4.rM (Below.refl _ _) (show w.heap.size≤w4.heap.size by omega) hl5 ?_;intro out2 w6 hrow6 hb6 hg6 _;obtain ⟨A6,c6,rfl⟩:=Kd.R_slice hrow6;obtain ⟨hG6,hQ6⟩:=hQ4.addM hgl hG hne hw hGw hrow6 hg6;(rw [show (acc++[x]).length=acc.length+1 by simp] at hQ6);obtain ⟨r0,r1,r2,r3,r4,r5,r6,rz⟩:=aZO hG6))
        go_roundw
        case rel=>exact ⟨j+1,_,_,p4,k4,b4,by go_num,hQ6,hfar2⟩
        case measure=>simp [intOf];omega
      | ok z =>
       obtain ⟨z,q⟩:=z
       rw [ht] at hst hL
       obtain ⟨e1,e2,e3,e4⟩:=hst.1 rfl
       subst e1 e2 e3 e4
       have h200:=(cZf bs p2 hp0 hp1).2 _ _ ht
       dsimp only at hL
       have HL:=hid_ hL
       clear hL ht hst
       have fin : ¬ (0 < acc.length ∧ 0 ≤ cmpL cmpI (acc.getD (acc.length - 1) []) x) → Far p5 k5 b5 bs m (j + 1) F2 (aZr [] (bZt bs) (cmpL cmpI)) (acc ++ [x]) p4 0 b4 := fun hh => ⟨by omega, by rw [List.length_append, hfar.len]; rfl, fun _ => ⟨hkb, by omega, by omega, hbb, by
        have:=HL.out
        rw [if_neg hh] at this
        rw [show m - (j+1)=m - j - 1 by omega]
        exact this⟩,fun h=>absurd rfl h⟩
       by_cases hj:0<j
       ·
        have d1:decide ((0:Int)<(j:Int))=true:=decide_eq_true (by omega)
        have d2:decide (0<j)=true:=decide_eq_true hj
        obtain ⟨Ao,co,hAo,hco,hCo⟩:=Kd.R_reads hQ4.rM
        subst hAo
        have hal:=hfar.len
        obtain ⟨ad,B0,b0,rfl,hcell,hcap,hKy⟩:=at_L4 hCo ((j - 1:Nat):Int) (by omega) (by omega)
        rw [Int.toNat_natCast] at hcell
        have hyy:gZg acc ((j - 1:Nat):Int)=acc.getD (acc.length - 1) []:=by unfold gZg;rw [Int.toNat_natCast,hal]
        rw [hyy] at hcell hcap hKy
        clear hyy
        generalize hy:acc.getD (acc.length - 1) []=yy at hcell hcap hKy fin
        obtain ⟨i,hij⟩:∃ i:Nat,i=j - 1:=⟨_,rfl⟩
        rw [←hij] at hcell
        have di0:0≤(i:Int):=by omega
        have di1:(i:Int)<(acc.length:Int):=by omega
        have ei:wrap64 ((j:Int) - 1)=(i:Int):=by rw [hij];exact dZe j hj (by omega)
        have ej:(j:Int) - 1=(i:Int):=by omega
        have hyl:=gZo w4 B0 Ax b0 cx yy x hKy hcap hCx hcx
        clear hij hal
        cases hcmp:decide (0≤cmpL cmpI yy x) with
        | false =>
         have hfar2:=fin (fun hh=>by have:=decide_eq_true hh.2;rw [hcmp] at this;cases this)
         have HC:=hyl hKy.2.1
         rw [hcmp] at HC
         clear fin HL hj hy hcmp hyl
         go_wp2_with (first|((with_reducible refine HC.mono ?_);rintro e w5x ⟨rfl,⟨nd,rfl⟩⟩;(have hQ5:=hQ4.drewN nd);(have hsd:(w4.drewN nd).heap.size=w4.heap.size:=rfl);obtain ⟨t0,t1,t2,t3,t4,t5,t6,tz⟩:=aZO hQ5.blk)|((with_reducible refine aZh (b:=.append) (xs:=#[.tmp 136,.tmp 138]) rfl ?_);at_builtin;refine Kd.R_append (Kd.slice 3 (Kd.int .i64)) (w0:=w4.drewN nd) w.heap.size rfl (.tmp 136) (.tmp 138) 25 23 (.slice none 0 0) 24 rfl Try.underlying25 info23 rfl (by decide) (by omega) (.slice (some ad) acc.length co) acc x [.slice Ax x.length cx] (fun k=>w.heap.size≤k) (fun k=>wr.heap.size≤k) rfl rfl (Kd.M_drewN (Kd.M_row hxM) nd) (fun q hq=>⟨by omega,fun e=>by have:=hold q e.symm;omega⟩) (fun q hq=>by (have hq2:w4.heap.size≤q:=hq);omega) hQ5.rM (Below.refl _ _) (show w.heap.size≤w4.heap.size by omega) hl5 ?_;intro out2 w6 hrow6 hb6 hg6 _;obtain ⟨A6,c6,rfl⟩:=Kd.R_slice hrow6;obtain ⟨hG6,hQ6⟩:=hQ5.addM hgl hG hne hw hGw hrow6 hg6;(rw [show (acc++[x]).length=acc.length+1 by simp] at hQ6);obtain ⟨r0,r1,r2,r3,r4,r5,r6,rz⟩:=aZO hG6))
         go_roundw
         case rel=>exact ⟨j+1,_,_,p4,0,b4,by go_num,hQ6,hfar2⟩
         case measure=>simp [intOf];omega
        | true =>
         have HL2:Hid (F2=.error (204,p2)):=by
          have:=HL.out
          rw [hy,if_pos ⟨by omega,of_decide_eq_true hcmp⟩] at this
          exact hid_ this.symm
         have HC:=hyl hKy.2.1
         rw [hcmp] at HC
         clear fin HL hj hy hcmp hyl
         have HFl:=fun nd=>fZN bs w0 (w4.drewN nd) g p4 0 b4 204 p2 (hQ4.drewN nd).rd (hQ4.drewN nd).below
         go_wp2_with (first|((with_reducible refine HC.mono ?_);rintro e w5x ⟨rfl,⟨nd,rfl⟩⟩;(have hsd:(w4.drewN nd).heap.size=w4.heap.size:=rfl);(have hQd:=hQ4.drewN nd);obtain ⟨f0,f1,f2,f3,f4,f5,f6,fz⟩:=aZO hQd.blk)|((with_reducible refine (HFl _).mono ?_);rintro e w5 ⟨rfl,hI5,hB5,hK5⟩;rw [if_pos trivial] at hI5;(have hQ5:=(hQ4.drewN nd).call hgl hG hne hI5 hB5 hK5);(have hxM5:=Kd.R_keep (Kd.R_drewN hxM nd) hK5 (fun q hq=>by omega));(have hsz5:w4.heap.size≤w5.heap.size:=hK5.1);obtain ⟨t0,t1,t2,t3,t4,t5,t6,tz⟩:=aZO hQ5.blk)|((with_reducible refine aZh (b:=.append) (xs:=#[.tmp 136,.tmp 138]) rfl ?_);at_builtin;refine Kd.R_append (Kd.slice 3 (Kd.int .i64)) (w0:=w5) w.heap.size rfl (.tmp 136) (.tmp 138) 25 23 (.slice none 0 0) 24 rfl Try.underlying25 info23 rfl (by decide) (by omega) (.slice (some ad) acc.length co) acc x [.slice Ax x.length cx] (fun k=>w.heap.size≤k) (fun k=>wr.heap.size≤k) rfl rfl (Kd.M_row hxM5) (fun q hq=>⟨by omega,fun e=>by have:=hold q e.symm;omega⟩) (fun q hq=>by (have hq2:w5.heap.size≤q:=hq);omega) hQ5.rM (Below.refl _ _) (show w.heap.size≤w5.heap.size by omega) hl5 ?_;intro out2 w6 hrow6 hb6 hg6 _;obtain ⟨A6,c6,rfl⟩:=Kd.R_slice hrow6;obtain ⟨hG6,hQ6⟩:=hQ5.addM hgl hG hne hw hGw hrow6 hg6;(rw [show (acc++[x]).length=acc.length+1 by simp] at hQ6);obtain ⟨r0,r1,r2,r3,r4,r5,r6,rz⟩:=aZO hG6))
         go_roundw
         case rel=>exact ⟨j+1,_,_,p4,204,p2,by go_num,hQ6,⟨by omega,by rw [List.length_append,hfar.len];rfl,fun h=>absurd h (by decide),fun _=>.inl ⟨hkb,HL2.out⟩⟩⟩
         case measure=>simp [intOf];omega
       ·
        have d1:decide ((0:Int)<(j:Int))=false:=decide_eq_false (by omega)
        have d2:decide (0<j)=false:=decide_eq_false hj
        have hfar2:=fin (fun hh=>by have:=hh.1;have:=hfar.len;omega)
        clear hj fin HL
        go_wp2_with (((with_reducible refine aZh (b:=.append) (xs:=#[.tmp 136,.tmp 138]) rfl ?_);at_builtin;refine Kd.R_append (Kd.slice 3 (Kd.int .i64)) (w0:=w4) w.heap.size rfl (.tmp 136) (.tmp 138) 25 23 (.slice none 0 0) 24 rfl Try.underlying25 info23 rfl (by decide) (by omega) v acc x [.slice Ax x.length cx] (fun k=>w.heap.size≤k) (fun k=>wr.heap.size≤k) rfl rfl (Kd.M_row hxM) (fun q hq=>⟨by omega,fun e=>by have:=hold q e.symm;omega⟩) (fun q hq=>by (have hq2:w4.heap.size≤q:=hq);omega) hQ4.rM (Below.refl _ _) (show w.heap.size≤w4.heap.size by omega) hl5 ?_;intro out2 w6 hrow6 hb6 hg6 _;obtain ⟨A6,c6,rfl⟩:=Kd.R_slice hrow6;obtain ⟨hG6,hQ6⟩:=hQ4.addM hgl hG hne hw hGw hrow6 hg6;(rw [show (acc++[x]).length=acc.length+1 by simp] at hQ6);obtain ⟨r0,r1,r2,r3,r4,r5,r6,rz⟩:=aZO hG6))
        go_roundw
        case rel=>exact ⟨j+1,_,_,p4,0,b4,by go_num,hQ6,hfar2⟩
        case measure=>simp [intOf];omega
     ·
      have hst:=hfar.stk hgo
      by_cases hjn:(j:Int)<(m:Int)
      ·
       have hk2:(k2 == 0)=false:=by rw [beq_eq_false_iff_ne];intro e;exact hgo ⟨by omega,e⟩
       have hfin:=eZn hstS h hlS (hs5.then hp2 (L:=fun n q=>aZr [] (bZt bs) (cmpL cmpI) n.toNat q []) rfl (by rw [show ((m:Int).toNat)=m from Int.toNat_natCast m,HF2.out];exact hst))
       clear hst hfar hgo
       go_wp2_with (fail)
       refine bodyPost_end (results_none Try.results64 _ _ _) rfl ⟨rfl,_,_,_,_,_,_,_,hS,hfin⟩
      ·
       have hk2:True:=trivial
       have hfin:=eZn hstS h hlS (hs5.then hp2 (L:=fun n q=>aZr [] (bZt bs) (cmpL cmpI) n.toNat q []) rfl (by rw [show ((m:Int).toNat)=m from Int.toNat_natCast m,HF2.out];exact hst))
       clear hst hfar hgo
       go_wp2_with (fail)
       refine bodyPost_end (results_none Try.results64 _ _ _) rfl ⟨rfl,_,_,_,_,_,_,_,hS,hfin⟩
   ·
    have hk2:True:=trivial
    have hlS:k2=0→acc.length=n:=fun hk=>by
     have:=hfar.len
     by_cases hq:j<n
     · exact absurd ⟨hq,hk⟩ hgo
     · omega
    have hp2:k2=0→0≤p2∧p2≤bs.length:=fun hk=>⟨(hfar.good hk).2.1,(hfar.good hk).2.2.1⟩
    have hstS:Stk p k b (aZQ [] (bZc bs) (cmpL cmpS) bs p 0 (4096 - (nT:Int) - (nN:Int))) acc p2 k2 b2:=hs1.then h (L:=fun n q=>aZr [] (bZc bs) (cmpL cmpS) n.toNat q []) rfl (by rw [show ((n:Int).toNat)=n from Int.toNat_natCast n,HF1.out];exact hst)
    have e5:wrap64 (4096 - (nT:Int) - (nN:Int) - (n:Int))=4096 - nT - nN - n:=bZT _ (by omega) (by omega)
    clear hst hfar hgo
    go_wp2_with (fail)
    clear e5 a1 a2
    refine (bZ4 bs hb hlen w0 wr g p2 k2 b2 hS.rd hS.below hp2 0 (4096 - (nT:Int) - (nN:Int) - (n:Int))).mono ?_
    rintro e w5 ⟨x5,p5,k5,b5,rfl,hI5,hB5,hK5,hs5,hz5⟩
    have hS9:=hS.call hgl hG hne hI5 hB5 hK5
    clear hS hI5 hB5 hK5
    generalize v=vS1 at hS9 ⊢
    generalize acc=S1 at hS9 hstS hlS
    have hx5:0≤x5∧x5≤4096:=by
     by_cases hk5:k5=0
     ·
      obtain ⟨_,_,_,z1,z2,_⟩:=hs5.got hp2 hk5
      omega
     · rw [hz5 hk5];omega
    obtain ⟨m,rfl⟩:=Int.eq_ofNat_of_zero_le hx5.1
    have hp2x:k5=0→0≤p5∧p5≤bs.length:=fun hk5=>by
     obtain ⟨e1,_,_,_,_,z1,z2⟩:=hs5.got hp2 hk5
     have:=hp2 e1
     omega
    generalize hF:aZr [] (bZt bs) (cmpL cmpI) m p5 []=F2
    have HF2:=hid_ hF;clear hF
    have hfar0:Far p5 k5 b5 bs m 0 F2 (aZr [] (bZt bs) (cmpL cmpI)) [] p5 k5 b5:=⟨Nat.zero_le _,rfl,fun hk=>⟨hk,(hp2x hk).1,(hp2x hk).2,rfl,HF2.out⟩,fun hk=>.inr ⟨hk,rfl,rfl,rfl⟩⟩
    go_wp2_with (fail)
    go_loopw [9] (fun i wr=>∃ (j:Nat) (v:Value) (acc:List (List Int)) (p2 k2 b2:Int),i=.int .i64 j∧StQr w0 w wr g G bs p2 k2 b2 (.slice AT nT cT) (.slice AN nN cN) vS1 v vC d l S1 acc∧Far p5 k5 b5 bs m j F2 (aZr [] (bZt bs) (cmpL cmpI)) acc p2 k2 b2) (fun i _=>m - (intOf i).toNat)
    case atStart=>exact ⟨0,_,[],p5,k5,b5,rfl,hS9,hfar0⟩
    case round =>
     clear hS9 hfar0
     obtain ⟨j,v,acc,p2,k2,b2,rfl,hS,hfar⟩:=hrel
     have hle:=hfar.le
     obtain ⟨A,c,a0,a1,a2,a3,az,hc,hC⟩:=aZX hS.rd
     clear a0 a3 az hc hC
     by_cases hgo:j<m∧k2=0
     ·
      obtain ⟨hjn,rfl⟩:=hgo
      obtain ⟨hkb,hp0,hp1,hbb,hL⟩:=hfar.good rfl
      have d0:(j:Int)<(m:Int):=by omega
      go_wp2_with (fail)
      refine (bZ4 bs hb hlen w0 wr g p2 0 b2 hS.rd hS.below (fun _=>⟨hp0,hp1⟩) 1 1000).mono ?_
      rintro e w2 ⟨y0,p3,k3,b3,rfl,hI3,hB3,hK3,hs3,hz3⟩
      have hQ3:=hS.call hgl hG hne hI3 hB3 hK3
      have hy:0≤y0∧y0≤1000:=by
       by_cases hk3:k3=0
       ·
        obtain ⟨_,_,_,z1,z2,_⟩:=hs3.got (fun _=>⟨hp0,hp1⟩) hk3
        omega
       · rw [hz3 hk3];omega
      obtain ⟨y,rfl⟩:=Int.eq_ofNat_of_zero_le hy.1
      have hp3:k3=0→0≤p3∧p3≤bs.length:=fun hk3=>by
       obtain ⟨_,_,_,_,_,z1,z2⟩:=hs3.got (fun _=>⟨hp0,hp1⟩) hk3
       omega
      clear a1 a2 hI3 hB3
      go_wp2_with (fail)
      refine (rNums bs hb hlen w0 w2 g p3 k3 b3 hQ3.rd hQ3.below hp3 y (by omega)).mono ?_
      rintro e w4 ⟨vx,x,p4,k4,b4,rfl,hx,hI4,hB4,hK4,hs4⟩
      have hQ4:=hQ3.call hgl hG hne hI4 hB4 hK4
      have hst:Stk p2 0 b2 (bZt bs p2) x p4 k4 b4:=hs3.then (fun _=>⟨hp0,hp1⟩) (L:=fun n q=>aZr 0 (numF bs) cmpI n.toNat q []) rfl hs4
      have hsz2:wr.heap.size≤w2.heap.size:=hK3.1
      have hsz4:w2.heap.size≤w4.heap.size:=hK4.1
      have hszr:=hS.keep.1
      have hold:=Kd.R_lt hS.rM
      have hxM:=Kd.R_mono (Kd.R_lower (Kd.R_bound hx) (show w.heap.size≤w2.heap.size by omega)) (ok':=fun k=>wr.heap.size≤k) (fun _ hk=>by have:=hk.2.1;omega)
      clear hQ3 hs3 hs4 hz3 hI4 hB4 hx hp3
      obtain ⟨Ax,cx,rfl,hcx,hCx⟩:=Kd.R_reads hxM
      have hl5:(acc.length+1)*24≤140737488355328:=by have:=hfar.len;omega
      obtain ⟨A,c,a0,a1,a2,a3,az,hc,hC⟩:=aZX hQ4.rd
      obtain ⟨q0,q1,q2,q3,q4,q5,q6,qz⟩:=aZO hQ4.blk
      clear a0 a1 a3 az hc hC q0 q1 q2 q4 q5 q6
      rw [show m - j=(m - j - 1)+1 by omega] at hL
      unfold aZr at hL
      cases ht:bZt bs p2 with
      | error f =>
       obtain ⟨kk,q⟩:=f
       rw [ht] at hst hL
       obtain ⟨e1,e2⟩:=hst.1 rfl
       subst e1 e2
       have h200:=(cZf bs p2 hp0 hp1).1 _ _ ht
       have hk4:(k4 == 0)=false:=by rw [beq_eq_false_iff_ne];omega
       have hfar2:Far p5 k5 b5 bs m (j+1) F2 (aZr [] (bZt bs) (cmpL cmpI)) (acc++[x]) p4 k4 b4:=⟨by omega,by rw [List.length_append,hfar.len];rfl,fun h=>by omega,fun _=>.inl ⟨hkb,hL.symm⟩⟩
       clear hL ht hst
       by_cases hj:0<j
       ·
        have d1:decide ((0:Int)<(j:Int))=true:=decide_eq_true (by omega)
        have d2:decide (0<j)=true:=decide_eq_true hj
        clear hj
        go_wp2_with (((with_reducible refine aZh (b:=.append) (xs:=#[.tmp 136,.tmp 138]) rfl ?_);at_builtin;refine Kd.R_append (Kd.slice 3 (Kd.int .i64)) (w0:=w4) w.heap.size rfl (.tmp 136) (.tmp 138) 25 23 (.slice none 0 0) 24 rfl Try.underlying25 info23 rfl (by decide) (by omega) v acc x [.slice Ax x.length cx] (fun k=>w.heap.size≤k) (fun k=>wr.heap.size≤k) rfl rfl (Kd.M_row hxM) (fun q hq=>⟨by omega,fun e=>by have:=hold q e.symm;omega⟩) (fun q hq=>by (have hq2:w4.heap.size≤q:=hq);omega) hQ4.rM (Below.refl _ _) (show w.heap.size≤w4.heap.size by omega) hl5 ?_;intro out2 w6 hrow6 hb6 hg6 _;obtain ⟨A6,c6,rfl⟩:=Kd.R_slice hrow6;obtain ⟨hG6,hQ6⟩:=hQ4.addM hgl hG hne hw hGw hrow6 hg6;(rw [show (acc++[x]).length=acc.length+1 by simp] at hQ6);obtain ⟨r0,r1,r2,r3,r4,r5,r6,rz⟩:=aZO hG6))
        go_roundw
        case rel=>exact ⟨j+1,_,_,p4,k4,b4,by go_num,hQ6,hfar2⟩
        case measure=>simp [intOf];omega
       ·
        have d1:decide ((0:Int)<(j:Int))=false:=decide_eq_false (by omega)
        have d2:decide (0<j)=false:=decide_eq_false hj
        clear hj
        go_wp2_with (((with_reducible refine aZh (b:=.append) (xs:=#[.tmp 136,.tmp 138]) rfl ?_);at_builtin;refine Kd.R_append (Kd.slice 3 (Kd.int .i64)) (w0:=w4) w.heap.size rfl (.tmp 136) (.tmp 138) 25 23 (.slice none 0 0) 24 rfl Try.underlying25 info23 rfl (by decide) (by omega) v acc x [.slice Ax x.length cx] (fun k=>w.heap.size≤k) (fun k=>wr.heap.size≤k) rfl rfl (Kd.M_row hxM) (fun q hq=>⟨by omega,fun e=>by have:=hold q e.symm;omega⟩) (fun q hq=>by (have hq2:w4.heap.size≤q:=hq);omega) hQ4.rM (Below.refl _ _) (show w.heap.size≤w4.heap.size by omega) hl5 ?_;intro out2 w6 hrow6 hb6 hg6 _;obtain ⟨A6,c6,rfl⟩:=Kd.R_slice hrow6;obtain ⟨hG6,hQ6⟩:=hQ4.addM hgl hG hne hw hGw hrow6 hg6;(rw [show (acc++[x]).length=acc.length+1 by simp] at hQ6);obtain ⟨r0,r1,r2,r3,r4,r5,r6,rz⟩:=aZO hG6))
        go_roundw
        case rel=>exact ⟨j+1,_,_,p4,k4,b4,by go_num,hQ6,hfar2⟩
        case measure=>simp [intOf];omega
      | ok z =>
       obtain ⟨z,q⟩:=z
       rw [ht] at hst hL
       obtain ⟨e1,e2,e3,e4⟩:=hst.1 rfl
       subst e1 e2 e3 e4
       have h200:=(cZf bs p2 hp0 hp1).2 _ _ ht
       dsimp only at hL
       have HL:=hid_ hL
       clear hL ht hst
       have fin : ¬ (0 < acc.length ∧ 0 ≤ cmpL cmpI (acc.getD (acc.length - 1) []) x) → Far p5 k5 b5 bs m (j + 1) F2 (aZr [] (bZt bs) (cmpL cmpI)) (acc ++ [x]) p4 0 b4 := fun hh => ⟨by omega, by rw [List.length_append, hfar.len]; rfl, fun _ => ⟨hkb, by omega, by omega, hbb, by
        have:=HL.out
        rw [if_neg hh] at this
        rw [show m - (j+1)=m - j - 1 by omega]
        exact this⟩,fun h=>absurd rfl h⟩
       by_cases hj:0<j
       ·
        have d1:decide ((0:Int)<(j:Int))=true:=decide_eq_true (by omega)
        have d2:decide (0<j)=true:=decide_eq_true hj
        obtain ⟨Ao,co,hAo,hco,hCo⟩:=Kd.R_reads hQ4.rM
        subst hAo
        have hal:=hfar.len
        obtain ⟨ad,B0,b0,rfl,hcell,hcap,hKy⟩:=at_L4 hCo ((j - 1:Nat):Int) (by omega) (by omega)
        rw [Int.toNat_natCast] at hcell
        have hyy:gZg acc ((j - 1:Nat):Int)=acc.getD (acc.length - 1) []:=by unfold gZg;rw [Int.toNat_natCast,hal]
        rw [hyy] at hcell hcap hKy
        clear hyy
        generalize hy:acc.getD (acc.length - 1) []=yy at hcell hcap hKy fin
        obtain ⟨i,hij⟩:∃ i:Nat,i=j - 1:=⟨_,rfl⟩
        rw [←hij] at hcell
        have di0:0≤(i:Int):=by omega
        have di1:(i:Int)<(acc.length:Int):=by omega
        have ei:wrap64 ((j:Int) - 1)=(i:Int):=by rw [hij];exact dZe j hj (by omega)
        have ej:(j:Int) - 1=(i:Int):=by omega
        have hyl:=gZo w4 B0 Ax b0 cx yy x hKy hcap hCx hcx
        clear hij hal
        cases hcmp:decide (0≤cmpL cmpI yy x) with
        | false =>
         have hfar2:=fin (fun hh=>by have:=decide_eq_true hh.2;rw [hcmp] at this;cases this)
         have HC:=hyl hKy.2.1
         rw [hcmp] at HC
         clear fin HL hj hy hcmp hyl
         go_wp2_with (first|((with_reducible refine HC.mono ?_);rintro e w5x ⟨rfl,⟨nd,rfl⟩⟩;(have hQ5:=hQ4.drewN nd);(have hsd:(w4.drewN nd).heap.size=w4.heap.size:=rfl);obtain ⟨t0,t1,t2,t3,t4,t5,t6,tz⟩:=aZO hQ5.blk)|((with_reducible refine aZh (b:=.append) (xs:=#[.tmp 136,.tmp 138]) rfl ?_);at_builtin;refine Kd.R_append (Kd.slice 3 (Kd.int .i64)) (w0:=w4.drewN nd) w.heap.size rfl (.tmp 136) (.tmp 138) 25 23 (.slice none 0 0) 24 rfl Try.underlying25 info23 rfl (by decide) (by omega) (.slice (some ad) acc.length co) acc x [.slice Ax x.length cx] (fun k=>w.heap.size≤k) (fun k=>wr.heap.size≤k) rfl rfl (Kd.M_drewN (Kd.M_row hxM) nd) (fun q hq=>⟨by omega,fun e=>by have:=hold q e.symm;omega⟩) (fun q hq=>by (have hq2:w4.heap.size≤q:=hq);omega) hQ5.rM (Below.refl _ _) (show w.heap.size≤w4.heap.size by omega) hl5 ?_;intro out2 w6 hrow6 hb6 hg6 _;obtain ⟨A6,c6,rfl⟩:=Kd.R_slice hrow6;obtain ⟨hG6,hQ6⟩:=hQ5.addM hgl hG hne hw hGw hrow6 hg6;(rw [show (acc++[x]).length=acc.length+1 by simp] at hQ6);obtain ⟨r0,r1,r2,r3,r4,r5,r6,rz⟩:=aZO hG6))
         go_roundw
         case rel=>exact ⟨j+1,_,_,p4,0,b4,by go_num,hQ6,hfar2⟩
         case measure=>simp [intOf];omega
        | true =>
         have HL2:Hid (F2=.error (204,p2)):=by
          have:=HL.out
          rw [hy,if_pos ⟨by omega,of_decide_eq_true hcmp⟩] at this
          exact hid_ this.symm
         have HC:=hyl hKy.2.1
         rw [hcmp] at HC
         clear fin HL hj hy hcmp hyl
         have HFl:=fun nd=>fZN bs w0 (w4.drewN nd) g p4 0 b4 204 p2 (hQ4.drewN nd).rd (hQ4.drewN nd).below
         go_wp2_with (first|((with_reducible refine HC.mono ?_);rintro e w5x ⟨rfl,⟨nd,rfl⟩⟩;(have hsd:(w4.drewN nd).heap.size=w4.heap.size:=rfl);(have hQd:=hQ4.drewN nd);obtain ⟨f0,f1,f2,f3,f4,f5,f6,fz⟩:=aZO hQd.blk)|((with_reducible refine (HFl _).mono ?_);rintro e w5 ⟨rfl,hI5,hB5,hK5⟩;rw [if_pos trivial] at hI5;(have hQ5:=(hQ4.drewN nd).call hgl hG hne hI5 hB5 hK5);(have hxM5:=Kd.R_keep (Kd.R_drewN hxM nd) hK5 (fun q hq=>by omega));(have hsz5:w4.heap.size≤w5.heap.size:=hK5.1);obtain ⟨t0,t1,t2,t3,t4,t5,t6,tz⟩:=aZO hQ5.blk)|((with_reducible refine aZh (b:=.append) (xs:=#[.tmp 136,.tmp 138]) rfl ?_);at_builtin;refine Kd.R_append (Kd.slice 3 (Kd.int .i64)) (w0:=w5) w.heap.size rfl (.tmp 136) (.tmp 138) 25 23 (.slice none 0 0) 24 rfl Try.underlying25 info23 rfl (by decide) (by omega) (.slice (some ad) acc.length co) acc x [.slice Ax x.length cx] (fun k=>w.heap.size≤k) (fun k=>wr.heap.size≤k) rfl rfl (Kd.M_row hxM5) (fun q hq=>⟨by omega,fun e=>by have:=hold q e.symm;omega⟩) (fun q hq=>by (have hq2:w5.heap.size≤q:=hq);omega) hQ5.rM (Below.refl _ _) (show w.heap.size≤w5.heap.size by omega) hl5 ?_;intro out2 w6 hrow6 hb6 hg6 _;obtain ⟨A6,c6,rfl⟩:=Kd.R_slice hrow6;obtain ⟨hG6,hQ6⟩:=hQ5.addM hgl hG hne hw hGw hrow6 hg6;(rw [show (acc++[x]).length=acc.length+1 by simp] at hQ6);obtain ⟨r0,r1,r2,r3,r4,r5,r6,rz⟩:=aZO hG6))
         go_roundw
         case rel=>exact ⟨j+1,_,_,p4,204,p2,by go_num,hQ6,⟨by omega,by rw [List.length_append,hfar.len];rfl,fun h=>absurd h (by decide),fun _=>.inl ⟨hkb,HL2.out⟩⟩⟩
         case measure=>simp [intOf];omega
       ·
        have d1:decide ((0:Int)<(j:Int))=false:=decide_eq_false (by omega)
        have d2:decide (0<j)=false:=decide_eq_false hj
        have hfar2:=fin (fun hh=>by have:=hh.1;have:=hfar.len;omega)
        clear hj fin HL
        go_wp2_with (((with_reducible refine aZh (b:=.append) (xs:=#[.tmp 136,.tmp 138]) rfl ?_);at_builtin;refine Kd.R_append (Kd.slice 3 (Kd.int .i64)) (w0:=w4) w.heap.size rfl (.tmp 136) (.tmp 138) 25 23 (.slice none 0 0) 24 rfl Try.underlying25 info23 rfl (by decide) (by omega) v acc x [.slice Ax x.length cx] (fun k=>w.heap.size≤k) (fun k=>wr.heap.size≤k) rfl rfl (Kd.M_row hxM) (fun q hq=>⟨by omega,fun e=>by have:=hold q e.symm;omega⟩) (fun q hq=>by (have hq2:w4.heap.size≤q:=hq);omega) hQ4.rM (Below.refl _ _) (show w.heap.size≤w4.heap.size by omega) hl5 ?_;intro out2 w6 hrow6 hb6 hg6 _;obtain ⟨A6,c6,rfl⟩:=Kd.R_slice hrow6;obtain ⟨hG6,hQ6⟩:=hQ4.addM hgl hG hne hw hGw hrow6 hg6;(rw [show (acc++[x]).length=acc.length+1 by simp] at hQ6);obtain ⟨r0,r1,r2,r3,r4,r5,r6,rz⟩:=aZO hG6))
        go_roundw
        case rel=>exact ⟨j+1,_,_,p4,0,b4,by go_num,hQ6,hfar2⟩
        case measure=>simp [intOf];omega
     ·
      have hst:=hfar.stk hgo
      by_cases hjn:(j:Int)<(m:Int)
      ·
       have hk2:(k2 == 0)=false:=by rw [beq_eq_false_iff_ne];intro e;exact hgo ⟨by omega,e⟩
       have hfin:=eZn hstS h hlS (hs5.then hp2 (L:=fun n q=>aZr [] (bZt bs) (cmpL cmpI) n.toNat q []) rfl (by rw [show ((m:Int).toNat)=m from Int.toNat_natCast m,HF2.out];exact hst))
       clear hst hfar hgo
       go_wp2_with (fail)
       refine bodyPost_end (results_none Try.results64 _ _ _) rfl ⟨rfl,_,_,_,_,_,_,_,hS,hfin⟩
      ·
       have hk2:True:=trivial
       have hfin:=eZn hstS h hlS (hs5.then hp2 (L:=fun n q=>aZr [] (bZt bs) (cmpL cmpI) n.toNat q []) rfl (by rw [show ((m:Int).toNat)=m from Int.toNat_natCast m,HF2.out];exact hst))
       clear hst hfar hgo
       go_wp2_with (fail)
       refine bodyPost_end (results_none Try.results64 _ _ _) rfl ⟨rfl,_,_,_,_,_,_,_,hS,hfin⟩
set_option linter.unusedSectionVars false
def Ends (F:Except (Int × Int) (Pg × Int)) (kf bf:Int) (gf:Pg):Prop :=
  match F with
  | .ok (g,_)=>kf=0∧gf=g
  | .error (k,q)=>k≠0∧kf=k∧bf=q
theorem Stk.link {α:Type} {p k b:Int} {r:Except (Int × Int) (α × Int)} {x:α} {p2 k2 b2 kf bf:Int} {gf:Pg} {F:Except (Int × Int) (Pg × Int)} {c:α→Int→Except (Int × Int) (Pg × Int)}
 (hs:Stk p k b r x p2 k2 b2) (ht:∀ kk q,k=0→r=.error (kk,q)→kk≠0) (hn:k2≠0→kf=k2∧bf=b2) (ho:k2=0→Ends (c x p2) kf bf gf)
 (he:∀ f,r=.error f→F=.error f) (hk:∀ y q,r=.ok (y,q)→F=c y q):(k≠0→kf=k∧bf=b)∧(k=0→Ends F kf bf gf):=by
 refine ⟨fun h=>?_,fun h=>?_⟩
 ·
  obtain ⟨rfl,rfl,rfl⟩:=hs.2 h
  exact hn h
 ·
  have h1:=hs.1 h
  cases hr:r with
  | error f =>
   obtain ⟨kk,q⟩:=f
   rw [hr] at h1
   obtain ⟨rfl,rfl⟩:=h1
   have h2:=ht _ _ h hr
   rw [he _ hr]
   exact ⟨h2,hn h2⟩
  | ok z =>
   obtain ⟨z,q⟩:=z
   rw [hr] at h1
   obtain ⟨rfl,rfl,h2,rfl⟩:=h1
   rw [hk _ _ hr]
   exact ho h2
theorem fZd (bs:List Int) (nT nN:Nat):Tame bs.length (fZE bs nT nN) :=
  (bZr [] (cmpL cmpS) (cZg bs) 0 (4096 - nT - nN)).bind
    (g:=fun S q=>match aZQ [] (bZt bs) (cmpL cmpI) bs q 0 (4096 - nT - nN - S.length) with | .error f=>.error f | .ok (M,q)=>.ok ((S,M),q))
    (fun S => (bZr [] (cmpL cmpI) (cZf bs) 0 (4096 - nT - nN - S.length)).bind (g := fun M q => .ok ((S, M), q)) (fun M q h0 h1 => Res.ok ⟨by omega, by omega⟩)
      (fun p e h=>by rw [h]) (fun p x q h=>by rw [h]))
    (fun p e h=>by unfold fZE;rw [h]) (fun p x q h=>by unfold fZE;rw [h];try rfl)
theorem Stk.place {α:Type} {n p k b:Int} {f:Int→Except (Int × Int) (α × Int)} {x:α} {p2 k2 b2:Int} (ht:Tame n f) (hs:Stk p k b (f p) x p2 k2 b2) (h:k=0→0≤p∧p≤n):(k2=0→0≤p2∧p2≤n)∧(∀ kk q,k=0→f p=.error (kk,q)→kk≠0):=by
 refine ⟨fun h2=>?_,fun kk q hk he=>?_⟩
 ·
  by_cases hk:k=0
  ·
   have h1:=hs.1 hk
   have h3:=ht p (h hk).1 (h hk).2
   cases hr:f p with
   | error e =>
    obtain ⟨kk,q⟩:=e
    rw [hr] at h1
    have:=h3.1 _ _ hr
    have:=h1.1
    omega
   | ok z =>
    obtain ⟨z,q⟩:=z
    rw [hr] at h1
    have:=h3.2 _ _ hr
    have:=h1.2.1
    have:=h hk
    omega
  ·
   have:=(hs.2 hk).2.1
   omega
 ·
  have:=(ht p (h hk).1 (h hk).2).1 _ _ he
  omega
theorem ref_ends (bs:List Int) {p0 k0 b0 dep p1 k1 b1 loc p2 k2 b2 nt p3 k3 b3 p4 k4 b4 nn p5 k5 b5 p6 k6 b6 p7 k7 b7 n p8 k8 b8 p9 k9 b9 kf bf:Int} {T:List ByteArray} {N:List Int} {S:List (List ByteArray)} {M:List (List Int)} {C:List S66}
 (h0:match bZ6 bs 4 0 with|none=>p0=4∧k0=0∧b0=0|some f=>k0=f.1∧b0=f.2) (g0:k0=0→0≤p0∧p0≤bs.length)
 (s1:Stk p0 k0 b0 (aZn bs p0 0 128) dep p1 k1 b1) (s2:Stk p1 k1 b1 (aZn bs p1 0 1024) loc p2 k2 b2)
 (s3:Stk p2 k2 b2 (aZn bs p2 0 4096) nt p3 k3 b3) (s4:Stk p3 k3 b3 (aZr ByteArray.empty (bZh bs) cmpS nt.toNat p3 []) T p4 k4 b4)
 (s5:Stk p4 k4 b4 (aZn bs p4 0 (4096 - T.length)) nn p5 k5 b5) (s6:Stk p5 k5 b5 (aZr 0 (numF bs) cmpI nn.toNat p5 []) N p6 k6 b6)
 (s7:Stk p6 k6 b6 (fZE bs T.length N.length p6) (S,M) p7 k7 b7) (s8:Stk p7 k7 b7 (aZn bs p7 0 32768) n p8 k8 b8)
 (s9:Stk p8 k8 b8 (cZo bs n.toNat p8 []) C p9 k9 b9) (hf1:k9=0→p9<bs.length→kf=206∧bf=p9) (hf2:k9=0→¬p9<bs.length→kf=0) (hf3:k9≠0→kf=k9∧bf=b9) :
 Ends (aZJ bs) kf bf ⟨T,N,S,M,C,dep,loc⟩:=by
 obtain ⟨g1,t1⟩:=Stk.place (aZu bs 0 128) s1 g0
 obtain ⟨g2,t2⟩:=Stk.place (aZu bs 0 1024) s2 g1
 obtain ⟨g3,t3⟩:=Stk.place (aZu bs 0 4096) s3 g2
 obtain ⟨g4,t4⟩:=Stk.place (cZD _ cmpS (cZd bs) nt.toNat []) s4 g3
 obtain ⟨g5,t5⟩:=Stk.place (aZu bs 0 (4096 - T.length)) s5 g4
 obtain ⟨g6,t6⟩:=Stk.place (cZD _ cmpI (cZB bs) nn.toNat []) s6 g5
 obtain ⟨g7,t7⟩:=Stk.place (fZd bs T.length N.length) s7 g6
 obtain ⟨g8,t8⟩:=Stk.place (aZu bs 0 32768) s8 g7
 obtain ⟨g9,t9⟩:=Stk.place (fZt bs n.toNat []) s9 g8
 have e9:k9=0→Ends (pEnd bs ⟨T,N,S,M,C,dep,loc⟩ p9) kf bf ⟨T,N,S,M,C,dep,loc⟩:=fun h=>by
  unfold pEnd
  by_cases hp:p9<bs.length
  ·
   rw [if_pos hp]
   obtain ⟨a,b⟩:=hf1 h hp
   exact ⟨by decide,a,b⟩
  ·
   rw [if_neg hp]
   exact ⟨hf2 h hp,rfl⟩
 obtain ⟨n8,e8⟩:=s9.link (F:=dZn bs T N S M dep loc n.toNat p8 []) (c:=fun C q=>pEnd bs ⟨T,N,S,M,C,dep,loc⟩ q) t9 hf3 e9 (fun f h=>by unfold dZn;rw [h]) (fun y q h=>by unfold dZn;rw [h])
 obtain ⟨n7,e7⟩:=s8.link (F:=dZ1 bs T N S M dep loc p7) (c:=fun n q=>dZn bs T N S M dep loc n.toNat q []) t8 n8 e8 (fun f h=>by unfold dZ1;rw [h]) (fun y q h=>by unfold dZ1;rw [h])
 obtain ⟨n6,e6⟩:=s7.link (F:=pS bs T N dep loc p6) (c:=fun SM q=>dZ1 bs T N SM.1 SM.2 dep loc q) t7 n7 e7
  (fun f h => by
   unfold fZE at h
   unfold pS
   split at h
   ·
    rename_i f2 h2
    rw [h2]
    simp only [Except.error.injEq] at h
    rw [h]
   ·
    rename_i S q h2
    rw [h2]
    dsimp only
    unfold pM
    split at h
    ·
     rename_i f2 h3
     rw [h3]
     simp only [Except.error.injEq] at h
     rw [h]
    · cases h)
  (fun y q h => by
   unfold fZE at h
   unfold pS
   split at h
   · cases h
   ·
    rename_i S q h2
    rw [h2]
    dsimp only
    unfold pM
    split at h
    · cases h
    ·
     rename_i M q h3
     rw [h3]
     simp only [Except.ok.injEq,Prod.mk.injEq] at h
     obtain ⟨rfl,rfl⟩:=h
     rfl)
 obtain ⟨n5,e5⟩:=s6.link (F:=match aZr 0 (numF bs) cmpI nn.toNat p5 [] with | .error f=>.error f | .ok (N,q)=>pS bs T N dep loc q) (c:=fun N q=>pS bs T N dep loc q) t6 n6 e6 (fun f h=>by rw [h]) (fun y q h=>by rw [h])
 obtain ⟨n4,e4⟩:=s5.link (F:=pN bs T dep loc p4) (c:=fun nn q=>match aZr 0 (numF bs) cmpI nn.toNat q [] with | .error f=>.error f | .ok (N,q)=>pS bs T N dep loc q) t5 n5 e5 (fun f h=>by unfold pN aZQ;rw [h]) (fun y q h=>by unfold pN aZQ;rw [h];rfl)
 obtain ⟨n3,e3⟩:=s4.link (F:=match aZr ByteArray.empty (bZh bs) cmpS nt.toNat p3 [] with | .error f=>.error f | .ok (T,q)=>pN bs T dep loc q) (c:=fun T q=>pN bs T dep loc q) t4 n4 e4 (fun f h=>by rw [h]) (fun y q h=>by rw [h])
 obtain ⟨n2,e2⟩:=s3.link (F:=pT bs dep loc p2) (c:=fun nt q=>match aZr ByteArray.empty (bZh bs) cmpS nt.toNat q [] with | .error f=>.error f | .ok (T,q)=>pN bs T dep loc q) t3 n3 e3 (fun f h=>by unfold pT aZQ;rw [h]) (fun y q h=>by unfold pT aZQ;rw [h];rfl)
 obtain ⟨n1,e1⟩:=s2.link (F:=pLoc bs dep p1) (c:=fun loc q=>pT bs dep loc q) t2 n2 e2 (fun f h=>by unfold pLoc;rw [h]) (fun y q h=>by unfold pLoc;rw [h])
 obtain ⟨n0,e0⟩:=s1.link (F:=pDep bs p0) (c:=fun dep q=>pLoc bs dep q) t1 n1 e1 (fun f h=>by unfold pDep;rw [h]) (fun y q h=>by unfold pDep;rw [h])
 unfold aZJ
 cases hh:bZ6 bs 4 0 with
 | none =>
  rw [hh] at h0
  obtain ⟨rfl,h2,rfl⟩:=h0
  exact e0 h2
 | some f =>
  obtain ⟨k,q⟩:=f
  rw [hh] at h0
  obtain ⟨rfl,rfl⟩:=h0
  have:=dZ5 bs 4 0 _ _ hh
  have h3:k0≠0:=by omega
  exact ⟨h3,n0 h3⟩
structure StD (w W:World) (g X:Nat) (bs:List Int) (p k b:Int) (vT vN vS vM vC:Value) (P:Pg):Prop where
  rd:IsS136 w W g bs p k b
  below:Below w.heap.size w W
  z:W.heap[w.heap.size]?=some (.cells #[.slice none 0 0,.slice none 0 0,.slice none 0 0,.slice none 0 0,.slice none 0 0,.int .i64 0,.int .i64 0] 28 (0,0))
  x:W.heap[X]?=some (.cells #[vT,vN,vS,vM,vC,.int .i64 P.dep,.int .i64 P.loc] 28 (0,0))
  gX:g<X
  zg:w.heap.size<g
  rT:Kd.string.R 9 W w.heap.size (fun k=>X<k) vT P.T
  rN:(Kd.int .i64).R 3 W w.heap.size (fun k=>X<k) vN P.N
  rS:(Kd.slice 9 Kd.string).R 22 W w.heap.size (fun k=>X<k) vS P.S
  rM:(Kd.slice 3 (Kd.int .i64)).R 23 W w.heap.size (fun k=>X<k) vM P.M
  rC:k66.R 66 W w.heap.size (fun k=>X<k) vC P.C
section
variable {w W W2:World} {g X:Nat} {bs:List Int} {p k b p2 k2 b2:Int} {vT vN vS vM vC:Value} {P:Pg}
theorem StD.call (h:StD w W g X bs p k b vT vN vS vM vC P) (hI:IsS136 w W2 g bs p2 k2 b2) (hB:Below w.heap.size w W2) (hK:KeepBut W W2 g none):StD w W2 g X bs p2 k2 b2 vT vN vS vM vC P:=by
  have h1:=h.gX
  have h2:=h.zg
  have ne:∀ j,X<j→j≠g:=fun j hj=>by omega
  exact ⟨hI, hB, (hK.2 _ (aZd h.z) (by omega) (by simp)).trans h.z, (hK.2 X (aZd h.x) (by omega) (by simp)).trans h.x, h1, h2,
    Kd.R_keep h.rT hK ne,Kd.R_keep h.rN hK ne,Kd.R_keep h.rS hK ne,Kd.R_keep h.rM hK ne,Kd.R_keep h.rC hK ne⟩
theorem StD.alloc (h:StD w W g X bs p k b vT vN vS vM vC P) (o:Obj):StD w (W.alloc o) g X bs p k b vT vN vS vM vC P:=by
  have hb:Below W.heap.size W (W.alloc o):=aZa (Below.refl _ _) o
  exact ⟨h.rd.alloc o,aZa h.below o,(heap_alloc_old _ _ (aZd h.z)).trans h.z,(heap_alloc_old _ _ (aZd h.x)).trans h.x,h.gX,h.zg,Kd.R_below h.rT hb,Kd.R_below h.rN hb,Kd.R_below h.rS hb,Kd.R_below h.rM hb,Kd.R_below h.rC hb⟩
theorem StD.mine {α:Type} {d:Kd α} {e:Nat} {v:Value} {l:List α} (h:StD w W g X bs p k b vT vN vS vM vC P) (hv:d.R e W2 W.heap.size (fun _=>True) v l):d.R e W2 w.heap.size (fun k=>X<k) v l :=
  Kd.R_lower (Kd.R_mono (Kd.R_bound hv) (fun k hk=>by have:=hk.2.1;have:=aZd h.x;omega)) h.below.size
theorem StD.store (h:StD w W g X bs p k b vT vN vS vM vC P) (i:Nat) (v:Value) :
 IsS136 w (W.setCell ⟨X,i,none⟩ v) g bs p k b∧Below w.heap.size w (W.setCell ⟨X,i,none⟩ v) ∧
 (W.setCell ⟨X,i,none⟩ v).heap[w.heap.size]?=some (.cells #[.slice none 0 0,.slice none 0 0,.slice none 0 0,.slice none 0 0,.slice none 0 0,.int .i64 0,.int .i64 0] 28 (0,0)) ∧
 (W.setCell ⟨X,i,none⟩ v).heap[X]?=some (.cells (#[vT,vN,vS,vM,vC,.int .i64 P.dep,.int .i64 P.loc].setIfInBounds i v) 28 (0,0)):=by
 have h1:=h.gX
 have h2:=h.zg
 refine ⟨h.rd.far (show g≠X by omega) _,h.below.setCell (show w.heap.size≤X by omega) _,?_,?_⟩
 · rw [Below.heap_setCell _ _ _ _ (show w.heap.size≠X by omega)];exact h.z
 · simp [World.setCell,h.x,Array.getElem?_modify]
theorem StD.put0 (h:StD w W g X bs p k b vT vN vS vM vC P) {v:Value} {l:List ByteArray} (hv:Kd.string.R 9 W w.heap.size (fun k=>X<k) v l):StD w (W.setCell ⟨X,0,none⟩ v) g X bs p k b v vN vS vM vC { P with T:=l }:=by
  obtain ⟨a,b,c,d⟩:=h.store 0 v
  exact ⟨a,b,c,d,h.gX,h.zg,far_ hv,far_ h.rN,far_ h.rS,far_ h.rM,far_ h.rC⟩
theorem StD.put1 (h:StD w W g X bs p k b vT vN vS vM vC P) {v:Value} {l:List Int} (hv:(Kd.int .i64).R 3 W w.heap.size (fun k=>X<k) v l):StD w (W.setCell ⟨X,1,none⟩ v) g X bs p k b vT v vS vM vC { P with N:=l }:=by
  obtain ⟨a,b,c,d⟩:=h.store 1 v
  exact ⟨a,b,c,d,h.gX,h.zg,far_ h.rT,far_ hv,far_ h.rS,far_ h.rM,far_ h.rC⟩
theorem StD.put5 (h:StD w W g X bs p k b vT vN vS vM vC P) (n:Int):StD w (W.setCell ⟨X,5,none⟩ (.int .i64 n)) g X bs p k b vT vN vS vM vC { P with dep:=n }:=by
  obtain ⟨a,b,c,d⟩:=h.store 5 (.int .i64 n)
  exact ⟨a,b,c,d,h.gX,h.zg,far_ h.rT,far_ h.rN,far_ h.rS,far_ h.rM,far_ h.rC⟩
theorem StD.put6 (h:StD w W g X bs p k b vT vN vS vM vC P) (n:Int):StD w (W.setCell ⟨X,6,none⟩ (.int .i64 n)) g X bs p k b vT vN vS vM vC { P with loc:=n }:=by
  obtain ⟨a,b,c,d⟩:=h.store 6 (.int .i64 n)
  exact ⟨a,b,c,d,h.gX,h.zg,far_ h.rT,far_ h.rN,far_ h.rS,far_ h.rM,far_ h.rC⟩
theorem StD.sets {vS2 vM2:Value} {S:List (List ByteArray)} {M:List (List Int)} {d l:Value} (h:StD w W g X bs p k b vT vN vS vM vC P) (hq:StQr w W W2 g X bs p2 k2 b2 vT vN vS2 vM2 vC d l S M) (hd:d=.int .i64 P.dep) (hl:l=.int .i64 P.loc):StD w W2 g X bs p2 k2 b2 vT vN vS2 vM2 vC { P with S:=S,M:=M }:=by
  subst hd hl
  have h1:=h.gX
  have h2:=h.zg
  have hs:=h.below.size
  have hx:=aZd h.x
  have far:∀ {α:Type} {d:Kd α} {t:Nat} {v:Value} {l:List α},d.R t W w.heap.size (fun k=>X<k) v l→d.R t W2 w.heap.size (fun k=>X<k) v l:=fun hv =>
    Kd.R_step hv (fun j hj hlt=>hq.keep.2 j hlt (by omega) (fun e=>by have:=Option.some.inj e;omega))
  exact ⟨hq.rd,hq.below,(hq.keep.2 _ (aZd h.z) (by omega) (fun e=>by have:=Option.some.inj e;omega)).trans h.z,hq.blk,h1,h2,far h.rT,far h.rN,Kd.R_lower (Kd.R_mono hq.rS (fun j hj=>by omega)) hs,Kd.R_lower (Kd.R_mono hq.rM (fun j hj=>by omega)) hs,far h.rC⟩
theorem StD.grown (h:StD w W g X bs p k b vT vN vS vM vC P) (hg:W.grownBy W2 vC.ownBlock) {v2:Value} {l2:List S66} (hv:k66.R 66 W2 w.heap.size (fun k=>X<k) v2 l2) :
 StD w (W2.setCell ⟨X,4,none⟩ v2) g X bs p k b vT vN vS vM v2 { P with C:=l2 }:=by
 have h1:=h.gX
 have h2:=h.zg
 have hC:∀ k,vC.ownBlock=some k→X<k:=h.rC.1
 have hb:∀ k o,k≤X→W.heap[k]?=some o→W2.heap[k]?=some o:=fun k o hk ho=>(hg.block k (aZd ho) (fun e=>by have:=hC k e.symm;omega)).trans ho
 have e:∀ k,k≠X→(W2.setCell ⟨X,4,none⟩ v2).heap[k]?=W2.heap[k]?:=fun k hk=>Below.heap_setCell _ _ _ _ (by simpa using hk)
 refine ⟨(h.rd.grown hg (fun e=>by have:=hC g e.symm;omega)).far (show g≠X by omega) _,(h.below.grown hg h.below.size (fun k e=>by have:=hC k e;omega)).setCell (by simp;omega) _,?_,?_,h1,h2,far_ (Kd.R_over h.rT h.rC (by decide) hg),far_ (Kd.R_over h.rN h.rC (by decide) hg),far_ (Kd.R_over h.rS h.rC (by decide) hg),far_ (Kd.R_over h.rM h.rC (by decide) hg),far_ hv⟩
 · rw [e _ (by omega)];exact hb _ _ (by omega) h.z
 ·
  have:=hb X _ (Nat.le_refl _) h.x
  simp [World.setCell,this,Array.getElem?_modify]
theorem StD.done (h:StD w W g X bs p k b vT vN vS vM vC P) :
    Below w.heap.size w (setZ W w.heap.size vT vN vS vM vC (.int .i64 P.dep) (.int .i64 P.loc))∧(setZ W w.heap.size vT vN vS vM vC (.int .i64 P.dep) (.int .i64 P.loc)).heap[w.heap.size]?=some (.cells #[vT,vN,vS,vM,vC,.int .i64 P.dep,.int .i64 P.loc] 28 (0,0)) ∧
    IsPg w.heap.size P (.agg #[vT,vN,vS,vM,vC,.int .i64 P.dep,.int .i64 P.loc]) (setZ W w.heap.size vT vN vS vM vC (.int .i64 P.dep) (.int .i64 P.loc)):=by
  have h1:=h.gX
  have h2:=h.zg
  have e:∀ k,k≠w.heap.size→(setZ W w.heap.size vT vN vS vM vC (.int .i64 P.dep) (.int .i64 P.loc)).heap[k]?=W.heap[k]?:=cZe _ _ _ _ _ _ _ _ _
  have far:∀ {α:Type} {d:Kd α} {t:Nat} {v:Value} {l:List α},d.R t W w.heap.size (fun k=>X<k) v l→d.R t (setZ W w.heap.size vT vN vS vM vC (.int .i64 P.dep) (.int .i64 P.loc)) w.heap.size (fun _=>True) v l:=fun hv =>
    Kd.R_mono (Kd.R_step hv (fun k hk _=>e k (by omega))) (fun _ _=>trivial)
  refine ⟨?_,cZ5 _ _ _ _ _ _ _ _ _ ⟨_,_,_,_,_,_,_,h.z⟩,⟨vT,vN,vS,vM,vC,rfl,far h.rT,far h.rN,far h.rS,far h.rM,far h.rC⟩⟩
  unfold setZ
  exact ((((((h.below.setCell (by simp) _).setCell (by simp) _).setCell (by simp) _).setCell (by simp) _).setCell (by simp) _).setCell (by simp) _).setCell (by simp) _
end
theorem dZg (tmps:Array Value) (w:World) (P:Nat) (cs:Array Value) (a b:Value) (h2:tmps.getD 2 undef=.pointer (some ⟨P,0,none⟩)) (h3:tmps.getD 3 undef=a) (h4:tmps.getD 4 undef=b) (hP:w.heap[P]?=some (.cells cs 28 (0,0))) (hcs:cs.size=7) :
    (results Try.f32 tmps).run Try.prog w=.ok (.tuple #[.agg cs,a,b]) w:=by
  have hl:=run_loadVar_row (P:=Try.prog) w P 28 28 cs (0,0) _ hP Try.underlying28 rfl (by rw [hcs];kernel_rfl)
  have h2':tmps[2]?.getD undef=.pointer (some ⟨P,0,none⟩):=by simpa using h2
  have h3':tmps[3]?.getD undef=a:=by simpa using h3
  have h4':tmps[4]?.getD undef=b:=by simpa using h4
  simp [results,Try.results32,h2',h3',h4',asAddr,hl]
theorem zz_cell (W:World) (Z x i:Nat) (v:Value) (hx:x≠Z) (h:W.cell? ⟨x,i,none⟩=some v) :
    (((((((W.setCell ⟨Z,0,none⟩ (.slice none 0 0)).setCell ⟨Z,1,none⟩ (.slice none 0 0)).setCell ⟨Z,2,none⟩ (.slice none 0 0)).setCell ⟨Z,3,none⟩ (.slice none 0 0)).setCell ⟨Z,4,none⟩ (.slice none 0 0)).setCell ⟨Z,5,none⟩ (.int .i64 0)).setCell ⟨Z,6,none⟩ (.int .i64 0)).cell? ⟨x,i,none⟩=some v:=by
  have this:∀ W2:World,W2.heap[x]?=W.heap[x]?→W2.cell? ⟨x,i,none⟩=some v:=fun W2 e=>by rw [World.cell?_of_block e,h]
  refine this _ ?_
  rw [Below.heap_setCell _ _ _ _ (by simpa using hx),Below.heap_setCell _ _ _ _ (by simpa using hx),Below.heap_setCell _ _ _ _ (by simpa using hx),Below.heap_setCell _ _ _ _ (by simpa using hx),Below.heap_setCell _ _ _ _ (by simpa using hx),Below.heap_setCell _ _ _ _ (by simpa using hx),Below.heap_setCell _ _ _ _ (by simpa using hx)]
theorem dZd (W:World) (Z x i:Nat) (v:Value) (hx:x≠Z) (h:W.cell? ⟨x,i,none⟩=some v) :
    (((((((W.setCell ⟨Z,0,none⟩ (.slice none 0 0)).setCell ⟨Z,1,none⟩ (.slice none 0 0)).setCell ⟨Z,2,none⟩ (.slice none 0 0)).setCell ⟨Z,3,none⟩ (.slice none 0 0)).setCell ⟨Z,4,none⟩ (.slice none 0 0)).setCell ⟨Z,5,none⟩ (.int .i64 0)).setCell ⟨Z,6,none⟩ (.int .i64 0)).drew.cell? ⟨x,i,none⟩=some v:=by
  have:=zz_cell W Z x i v hx h
  generalize (((((((W.setCell ⟨Z,0,none⟩ (.slice none 0 0)).setCell ⟨Z,1,none⟩ (.slice none 0 0)).setCell ⟨Z,2,none⟩ (.slice none 0 0)).setCell ⟨Z,3,none⟩ (.slice none 0 0)).setCell ⟨Z,4,none⟩ (.slice none 0 0)).setCell ⟨Z,5,none⟩ (.int .i64 0)).setCell ⟨Z,6,none⟩ (.int .i64 0))=V at this ⊢
  exact this
theorem zz_blk (W:World) (Z:Nat) (h:W.heap[Z]?=some (.cells #[.slice none 0 0,.slice none 0 0,.slice none 0 0,.slice none 0 0,.slice none 0 0,.int .i64 0,.int .i64 0] 28 (0,0))) :
    (((((((W.setCell ⟨Z,0,none⟩ (.slice none 0 0)).setCell ⟨Z,1,none⟩ (.slice none 0 0)).setCell ⟨Z,2,none⟩ (.slice none 0 0)).setCell ⟨Z,3,none⟩ (.slice none 0 0)).setCell ⟨Z,4,none⟩ (.slice none 0 0)).setCell ⟨Z,5,none⟩ (.int .i64 0)).setCell ⟨Z,6,none⟩ (.int .i64 0)).heap[Z]?=some (.cells #[.slice none 0 0,.slice none 0 0,.slice none 0 0,.slice none 0 0,.slice none 0 0,.int .i64 0,.int .i64 0] 28 (0,0)):=by
  have:=cZ5 W Z (.slice none 0 0) (.slice none 0 0) (.slice none 0 0) (.slice none 0 0) (.slice none 0 0) (.int .i64 0) (.int .i64 0) ⟨_,_,_,_,_,_,_,h⟩
  unfold setZ at this
  exact this
theorem fZz (w W:World) (h:Below w.heap.size w W):Below w.heap.size w (((((((W.setCell ⟨w.heap.size,0,none⟩ (.slice none 0 0)).setCell ⟨w.heap.size,1,none⟩ (.slice none 0 0)).setCell ⟨w.heap.size,2,none⟩ (.slice none 0 0)).setCell ⟨w.heap.size,3,none⟩ (.slice none 0 0)).setCell ⟨w.heap.size,4,none⟩ (.slice none 0 0)).setCell ⟨w.heap.size,5,none⟩ (.int .i64 0)).setCell ⟨w.heap.size,6,none⟩ (.int .i64 0)) :=
  ((((((h.setCell (by simp) _).setCell (by simp) _).setCell (by simp) _).setCell (by simp) _).setCell (by simp) _).setCell (by simp) _).setCell (by simp) _
theorem fZW {F:Except (Int × Int) (Pg × Int)} {kf bf:Int} {gf z:Pg} (h:Ends F kf bf gf) (hk:kf≠0):match (generalizing:=false) F with | .ok (h,_)=>kf=0∧z=h | .error (k,q)=>kf=k∧bf=q∧z=z:=by
  cases F with
  | error f=>exact ⟨h.2.1,h.2.2,rfl⟩
  | ok g=>exact absurd h.1 hk
theorem ends_good {F:Except (Int × Int) (Pg × Int)} {gf z:Pg} (h:Ends F 0 0 gf):match (generalizing:=false) F with | .ok (h,_)=>(0:Int)=0∧gf=h | .error (k,q)=>(0:Int)=k∧(0:Int)=q∧gf=z:=by
  cases F with
  | error f=>exact absurd h.2.1.symm h.1
  | ok g=>exact ⟨rfl,h.2⟩
set_option linter.unusedSectionVars false
abbrev g0:Pg:=⟨[],[],[],[],[],0,0⟩
def IsRef (w:World) (bs:List Int) (e:Ending) (w':World):Prop :=
  ∃ (g:Pg) (v:Value) (kf bf:Int),e=.returned (.tuple #[v,.int .i64 kf,.int .i64 bf])∧Below w.heap.size w w'∧IsPg w.heap.size g v w' ∧
    (match aZJ bs with | .ok (h,_)=>kf=0∧g=h | .error (k,q)=>kf=k∧bf=q∧g=g0)
theorem Far.code {p k b:Int} {bs:List Int} {n j:Nat} {F:Except (Int × Int) (List S66 × Int)} {acc:List S66} {p2 k2 b2:Int} (h:Far p k b bs n j F (cZo bs) acc p2 k2 b2) (he:¬(j<n∧k2=0)):Stk p k b F acc p2 k2 b2:=by
 refine ⟨fun hk=>?_,fun hk=>?_⟩
 ·
  by_cases hk2:k2=0
  ·
   obtain ⟨_,_,_,e,hL⟩:=h.good hk2
   have hj:j=n:=by
    have:=h.le
    by_cases hjn:j<n
    · exact absurd ⟨hjn,hk2⟩ he
    · omega
   rw [hj,Nat.sub_self] at hL
   rw [←hL]
   exact ⟨rfl,rfl,hk2,e⟩
  ·
   rcases h.bad hk2 with ⟨_,e⟩ | ⟨e,_⟩
   · rw [e];exact ⟨rfl,rfl⟩
   · exact absurd hk e
 ·
  by_cases hk2:k2=0
  · exact absurd (h.good hk2).1 hk
  ·
   rcases h.bad hk2 with ⟨e,_⟩ | ⟨_,e⟩
   · exact absurd e hk
   · exact e
theorem Far.codeNext {p k b:Int} {bs:List Int} {n j:Nat} {F:Except (Int × Int) (List S66 × Int)} {acc:List S66} {p2 b2 p3 k3 b3:Int} {x:S66} (h:Far p k b bs n j F (cZo bs) acc p2 0 b2) (hj:j<n) (hs:Stk p2 0 b2 (aZ7 bs p2) x p3 k3 b3):Far p k b bs n (j+1) F (cZo bs) (acc++[x]) p3 k3 b3:=by
 obtain ⟨h1,h2,h3,h4,h5⟩:=h.good rfl
 rw [show n - j=(n - (j+1))+1 by omega] at h5
 unfold cZo at h5
 have h6:=hs.1 rfl
 have ht:=eZL bs p2 h2 h3
 refine ⟨by omega,by rw [List.length_append,h.len];rfl,fun hk=>?_,fun hk=>.inl ⟨h1,?_⟩⟩
 ·
  cases hi:aZ7 bs p2 with
  | error f =>
   obtain ⟨kk,q⟩:=f
   rw [hi] at h6
   have:=ht.1 _ _ hi
   have:=h6.1
   omega
  | ok y =>
   obtain ⟨y,q⟩:=y
   rw [hi] at h6 h5
   obtain ⟨rfl,rfl,_,rfl⟩:=h6
   have:=ht.2 _ _ hi
   exact ⟨h1,by omega,by omega,h4,h5⟩
 ·
  cases hi:aZ7 bs p2 with
  | error f =>
   obtain ⟨kk,q⟩:=f
   rw [hi] at h6 h5
   obtain ⟨rfl,rfl⟩:=h6
   exact h5.symm
  | ok y =>
   obtain ⟨y,q⟩:=y
   rw [hi] at h6
   exact absurd h6.2.2.1 hk
theorem fZM (w:World) (A:Option Addr) (c:Nat) (bs:List Int) (hC:Kd.C (Kd.int .u8) w A bs.length bs) (hc:bs.length≤c) (G:Good bs) :
 Calls Try.prog 32 #[.slice A bs.length c] w (IsRef w bs):=by
 have hb:=G.byte
 have hlen:=G.len
 go_enter Try.func32,Try.ntmps32
 go_wp2_with (fail)
 generalize hW1:((w.alloc (.cells #[.slice none 0 0,.slice none 0 0,.slice none 0 0,.slice none 0 0,.slice none 0 0,.int .i64 0,.int .i64 0] 28)).alloc (.cells #[.slice A bs.length c,.int .i64 0,.int .i64 0,.int .i64 0] 136))=W1
 have hz1:W1.heap[w.heap.size]?=some (.cells #[.slice none 0 0,.slice none 0 0,.slice none 0 0,.slice none 0 0,.slice none 0 0,.int .i64 0,.int .i64 0] 28 (0,0)):=by
  rw [←hW1,heap_alloc_old _ _ (by simp)];exact heap_alloc_new w _
 have hg1:W1.heap[w.heap.size+1]?=some (.cells #[.slice A bs.length c,.int .i64 0,.int .i64 0,.int .i64 0] 136 (0,0)):=by
  rw [←hW1]
  have:=heap_alloc_new (w.alloc (.cells #[.slice none 0 0,.slice none 0 0,.slice none 0 0,.slice none 0 0,.slice none 0 0,.int .i64 0,.int .i64 0] 28)) (.cells #[.slice A bs.length c,.int .i64 0,.int .i64 0,.int .i64 0] 136)
  simpa using this
 have hB1:Below w.heap.size w W1:=by rw [←hW1];exact aZa (aZa (Below.refl _ _) _) _
 have hI1:IsS136 w W1 (w.heap.size+1) bs 0 0 0:=⟨A,c,hg1,by omega,hC,hc⟩
 clear hW1 hg1
 refine (rHead bs hb hlen w W1 (w.heap.size+1) 0 hI1 hB1).mono ?_
 rintro e W2 ⟨rfl,p0,k0,b0,hI2,hB2,hK2,h0⟩
 have hz2:=(hK2.2 _ (aZd hz1) (by omega) (by simp)).trans hz1
 have hgl:=hI2.lt
 have g0_:k0=0→0≤p0∧p0≤bs.length:=fun hk=>by
  cases hh:bZ6 bs 4 0 with
  | none =>
   rw [hh] at h0
   have:=gZx bs 4 0 hh (by decide)
   omega
  | some f =>
   obtain ⟨kk,q⟩:=f
   rw [hh] at h0
   have:=dZ5 bs 4 0 _ _ hh
   have:=h0.1
   dsimp only at this
   omega
 have hS:StD w (W2.alloc (.cells #[.slice none 0 0,.slice none 0 0,.slice none 0 0,.slice none 0 0,.slice none 0 0,.int .i64 0,.int .i64 0] 28 (0,0))) (w.heap.size+1) W2.heap.size bs p0 k0 b0 (.slice none 0 0) (.slice none 0 0) (.slice none 0 0) (.slice none 0 0) (.slice none 0 0) ⟨[],[],[],[],[],0,0⟩ :=
  ⟨hI2.alloc _,aZa hB2 _,(heap_alloc_old _ _ (aZd hz2)).trans hz2,heap_alloc_new _ _,hgl,by omega,Kd.R_nil _ _ _ _ _,Kd.R_nil _ _ _ _ _,Kd.R_nil _ _ _ _ _,Kd.R_nil _ _ _ _ _,Kd.R_nil _ _ _ _ _⟩
 clear hI1 hB1 hz1 hI2 hB2 hK2 hz2 hgl
 have H0:=hid_ h0;clear h0
 go_upto_region 4 with (fail)
 generalize (W2.alloc (.cells #[.slice none 0 0,.slice none 0 0,.slice none 0 0,.slice none 0 0,.slice none 0 0,.int .i64 0,.int .i64 0] 28 (0,0)))=W3 at hS ⊢
 generalize W2.heap.size=X at hS ⊢
 generalize w.heap.size+1=g at hS ⊢
 clear W1 W2
 go_wp2_with (fail)
 refine (bZ4 bs hb hlen w W3 g p0 k0 b0 hS.rd hS.below g0_ 0 128).mono ?_
 rintro e W4 ⟨dep,p1,k1,b1,rfl,hI,hB,hK,s1,_⟩
 have g1_:=(Stk.place (aZu bs 0 128) s1 g0_).1
 have hS4:=hS.call hI hB hK
 clear hS hI hB hK
 obtain ⟨f0,f1,f2,f3,f4,f5,f6,fz⟩:=aZO hS4.x
 go_upto_region 5 with (fail)
 have hS:=hS4.put5 dep
 clear hS4 f0 f1 f2 f3 f4 f5 f6 fz
 dsimp only at hS
 generalize (W4.setCell ⟨X,5,none⟩ (.int .i64 dep))=W5 at hS ⊢
 clear W3 W4
 go_wp2_with (fail)
 refine (bZ4 bs hb hlen w W5 g p1 k1 b1 hS.rd hS.below g1_ 0 1024).mono ?_
 rintro e W6 ⟨loc,p2,k2,b2,rfl,hI,hB,hK,s2,_⟩
 have g2_:=(Stk.place (aZu bs 0 1024) s2 g1_).1
 have hS4:=hS.call hI hB hK
 clear hS hI hB hK
 obtain ⟨f0,f1,f2,f3,f4,f5,f6,fz⟩:=aZO hS4.x
 go_upto_region 6 with (fail)
 have hS:=hS4.put6 loc
 clear hS4 f0 f1 f2 f3 f4 f5 f6 fz
 dsimp only at hS
 generalize (W6.setCell ⟨X,6,none⟩ (.int .i64 loc))=W7 at hS ⊢
 clear W5 W6
 go_wp2_with (fail)
 refine (bZ4 bs hb hlen w W7 g p2 k2 b2 hS.rd hS.below g2_ 0 4096).mono ?_
 rintro e W8 ⟨x3,p3,k3,b3,rfl,hI,hB,hK,s3,z3⟩
 have g3_:=(Stk.place (aZu bs 0 4096) s3 g2_).1
 have hS4:=hS.call hI hB hK
 clear hS hI hB hK
 have hx3:0≤x3∧x3≤4096:=by
  by_cases hk3:k3=0
  ·
   obtain ⟨_,_,_,z1,z2,_⟩:=s3.got g2_ hk3
   omega
  · rw [z3 hk3];omega
 obtain ⟨n3,rfl⟩:=Int.eq_ofNat_of_zero_le hx3.1
 go_wp2_with (fail)
 refine (rTextsN bs hb hlen w W8 g p3 k3 b3 hS4.rd hS4.below g3_ n3 (by omega)).mono ?_
 rintro e W9 ⟨v4,T,p4,k4,b4,rfl,⟨hv4,hT⟩,hI,hB,hK,s4⟩
 have g4_:=(Stk.place (cZD _ cmpS (cZd bs) n3 []) s4 g3_).1
 have hm4:=hS4.mine hv4
 have hS:=hS4.call hI hB hK
 clear hS4 hI hB hK hv4
 obtain ⟨AT,cT,rfl⟩:=Kd.R_slice hm4
 obtain ⟨f0,f1,f2,f3,f4,f5,f6,fz⟩:=aZO hS.x
 go_upto_region 7 with (fail)
 have hS4:=hS.put0 hm4
 clear hS hm4 f0 f1 f2 f3 f4 f5 f6 fz
 dsimp only at hS4
 generalize (W9.setCell ⟨X,0,none⟩ (.slice AT T.length cT))=W10 at hS4 ⊢
 clear W7 W8 W9
 obtain ⟨f0,f1,f2,f3,f4,f5,f6,fz⟩:=aZO hS4.x
 have eT:wrap64 (4096 - (T.length:Int))=4096 - T.length:=bZT _ (by omega) (by omega)
 go_wp2_with (fail)
 refine (bZ4 bs hb hlen w W10 g p4 k4 b4 hS4.rd hS4.below g4_ 0 (4096 - (T.length:Int))).mono ?_
 rintro e W11 ⟨x5,p5,k5,b5,rfl,hI,hB,hK,s5,z5⟩
 have g5_:=(Stk.place (aZu bs 0 (4096 - (T.length:Int))) s5 g4_).1
 have hS:=hS4.call hI hB hK
 clear hS4 hI hB hK f0 f1 f2 f3 f4 f5 f6 fz eT
 have hx5:0≤x5∧x5≤4096∧(k5=0→x5≤4096 - T.length):=by
  by_cases hk5:k5=0
  ·
   obtain ⟨_,_,_,z1,z2,_⟩:=s5.got g4_ hk5
   omega
  · rw [z5 hk5];omega
 obtain ⟨n5,rfl⟩:=Int.eq_ofNat_of_zero_le hx5.1
 go_wp2_with (fail)
 refine (rNumsN bs hb hlen w W11 g p5 k5 b5 hS.rd hS.below g5_ n5 (by omega)).mono ?_
 rintro e W12 ⟨v6,N,p6,k6,b6,rfl,⟨hv6,hN⟩,hI,hB,hK,s6⟩
 have g6_:=(Stk.place (cZD _ cmpI (cZB bs) n5 []) s6 g5_).1
 have hm6:=hS.mine hv6
 have hS4:=hS.call hI hB hK
 clear hS hI hB hK hv6
 obtain ⟨AN,cN,rfl⟩:=Kd.R_slice hm6
 obtain ⟨f0,f1,f2,f3,f4,f5,f6,fz⟩:=aZO hS4.x
 go_upto_region 8 with (fail)
 have hS:=hS4.put1 hm6
 clear hS4 hm6 f0 f1 f2 f3 f4 f5 f6 fz
 dsimp only at hS
 generalize (W12.setCell ⟨X,1,none⟩ (.slice AN N.length cN))=W13 at hS ⊢
 clear W10 W11 W12
 have hTN:k6=0→T.length+N.length≤4096:=fun hk=>by
  have h5:k5=0:=by
   by_cases h:k5=0
   · exact h
   ·
    have:=(s6.2 h).2.1
    omega
  have:=hx5.2.2 h5
  omega
 go_wp2_with (fail)
 refine (rSets bs hb hlen w W13 g X p6 k6 b6 hS.rd hS.below g6_ (aZd hS.x) (by have:=hS.gX;omega) (by have:=hS.gX;have:=hS.zg;omega) AT AN cT cN T.length N.length (.slice none 0 0) (.int .i64 dep) (.int .i64 loc) ⟨by omega,by omega⟩ hTN hS.x).mono ?_
 rintro e W14 ⟨rfl,vS,vM,S,M,p7,k7,b7,hQ,s7⟩
 have g7_:=(Stk.place (fZd bs T.length N.length) s7 g6_).1
 have hS4:=hS.sets hQ rfl rfl
 clear hS hQ
 dsimp only at hS4
 go_wp2_with (fail)
 refine (bZ4 bs hb hlen w W14 g p7 k7 b7 hS4.rd hS4.below g7_ 0 32768).mono ?_
 rintro e W15 ⟨x8,p8,k8,b8,rfl,hI,hB,hK,s8,z8⟩
 have g8_:=(Stk.place (aZu bs 0 32768) s8 g7_).1
 have hS:=hS4.call hI hB hK
 clear hS4 hI hB hK
 have hx8:0≤x8∧x8≤32768:=by
  by_cases hk8:k8=0
  ·
   obtain ⟨_,_,_,z1,z2,_⟩:=s8.got g7_ hk8
   omega
  · rw [z8 hk8];omega
 obtain ⟨n8,rfl⟩:=Int.eq_ofNat_of_zero_le hx8.1
 clear W13 W14
 have E8:Hid (∀ p9 k9 b9 kf bf C,Stk p8 k8 b8 (cZo bs n8 p8 []) C p9 k9 b9→(k9=0→p9<bs.length→kf=206∧bf=p9)→(k9=0→¬p9<bs.length→kf=0)→(k9≠0→kf=k9∧bf=b9)→Ends (aZJ bs) kf bf ⟨T,N,S,M,C,dep,loc⟩) :=
  hid_ (fun _ _ _ _ _ _ s9 h1 h2 h3=>ref_ends bs H0.out g0_ s1 s2 s3 s4 s5 s6 s7 s8 s9 h1 h2 h3)
 obtain ⟨AS,cS,rfl⟩:=Kd.R_slice hS.rS
 obtain ⟨AM,cM,rfl⟩:=Kd.R_slice hS.rM
 dsimp only at hS
 generalize hF:cZo bs n8 p8 []=F at E8
 have hfar0:Far p8 k8 b8 bs n8 0 F (cZo bs) [] p8 k8 b8:=⟨Nat.zero_le _,rfl,fun hk=>⟨hk,(g8_ hk).1,(g8_ hk).2,rfl,hF⟩,fun hk=>.inr ⟨hk,rfl,rfl,rfl⟩⟩
 clear H0 g0_ s1 s2 s3 s4 s5 s6 s7 s8 g1_ g2_ g3_ g4_ g5_ g6_ g7_ g8_ z3 z5 z8 hF hTN hT hN hx3 hx5
 have hn8:=hx8.2
 clear hx8
 go_wp2_with (fail)
 go_loopw [8] (fun i wr=>∃ (j:Nat) (acc:List S66) (vC:Value) (p2 k2 b2:Int),i=.int .i64 j∧Far p8 k8 b8 bs n8 j F (cZo bs) acc p2 k2 b2∧StD w wr g X bs p2 k2 b2 (.slice AT T.length cT) (.slice AN N.length cN) (.slice AS S.length cS) (.slice AM M.length cM) vC ⟨T,N,S,M,acc,dep,loc⟩) (fun i _=>n8 - (intOf i).toNat)
 case atStart=>exact ⟨0,[],_,p8,k8,b8,rfl,hfar0,hS⟩
 case round =>
  clear hS hfar0
  obtain ⟨j,acc,vC,p9,k9,b9,rfl,hfar,hS⟩:=hrel
  obtain ⟨A9,c9,q0,q1,q2,q3,z,hc9,hC9⟩:=aZX hS.rd
  by_cases hgo:j<n8∧k9=0
  ·
   obtain ⟨hjn,rfl⟩:=hgo
   have d0:((j:Int)<(n8:Int)):=by omega
   obtain ⟨_,hp0,hp1,_,_⟩:=hfar.good rfl
   have HT:=rInstr bs hb hlen w wr g p9 0 b9 hS.rd hS.below (fun _=>⟨hp0,hp1⟩)
   go_wp2_with (fail)
   refine HT.mono ?_
   rintro e w3 ⟨v,x,p3,k3,b3,rfl,rfl,hI3,hB3,hK3,hs3⟩
   have hS3:=(hS.call hI3 hB3 hK3).alloc (.cells #[.int .i64 x.f0,.int .i64 x.f1,.int .i64 x.f2,.int .i64 x.f3] 66 (0,0))
   have hy:=heap_alloc_new w3 (.cells #[.int .i64 x.f0,.int .i64 x.f1,.int .i64 x.f2,.int .i64 x.f3] 66 (0,0))
   have hfar2:=hfar.codeNext hjn hs3
   have hl5:(acc.length+1)*32≤140737488355328:=by have:=hfar.len;omega
   clear hS HT hI3 hB3 hK3 hs3 q0 q1 q2 q3 z hc9 hC9 hfar hp0 hp1
   go_upto_region 14 with (fail)
   generalize (w3.alloc (.cells #[.int .i64 x.f0,.int .i64 x.f1,.int .i64 x.f2,.int .i64 x.f3] 66 (0,0)))=W4 at hS3 hy ⊢
   generalize w3.heap.size=Y at hy ⊢
   obtain ⟨AC,cC,rfl⟩:=Kd.R_slice hS3.rC
   obtain ⟨f0,f1,f2,f3,f4,f5,f6,fz⟩:=aZO hS3.x
   have y0:W4.cell? ⟨Y,0,none⟩=some (.int .i64 x.f0):=by simp [World.cell?,hy]
   have y1:W4.cell? ⟨Y,1,none⟩=some (.int .i64 x.f1):=by simp [World.cell?,hy]
   have y2:W4.cell? ⟨Y,2,none⟩=some (.int .i64 x.f2):=by simp [World.cell?,hy]
   have y3:W4.cell? ⟨Y,3,none⟩=some (.int .i64 x.f3):=by simp [World.cell?,hy]
   clear hy
   dsimp only at f4
   go_wp2_with (((with_reducible refine aZh (b:=.append) (xs:=#[.tmp 55,.tmp 57]) rfl ?_);at_builtin;refine Kd.R_append k66 (w0:=W4) w.heap.size (by rfl) (.tmp 55) (.tmp 57) 26 66 (.agg #[.int .i64 0,.int .i64 0,.int .i64 0,.int .i64 0]) 32 rfl Try.underlying26 info66 rfl (by decide) (by omega) (.slice AC acc.length cC) acc x [.int .i64 x.f0,.int .i64 x.f1,.int .i64 x.f2,.int .i64 x.f3] (fun k=>X<k) (fun _=>False) rfl rfl (k66_mkM _ _ _ x) (fun _ hk=>hk.elim) (fun k hk=>by have:=aZd hS3.x;omega) hS3.rC (Below.refl _ _) hS3.below.size hl5 ?_;intro v2 w9 hrow hb9 hg _;obtain ⟨A2,c2,rfl⟩:=Kd.R_slice hrow;have hx9:=(hg.block X (aZd hS3.x) (fun e=>by have:=hS3.rC.1 X e.symm;omega)).trans hS3.x;have z4:w9.frozen? ⟨X,4,none⟩=false:=(by simp [World.frozen?,hx9]);have k4:w9.cell? ⟨X,4,none⟩=some (.slice AC acc.length cC):=(by simp [World.cell?,hx9]);clear hx9))
   have hS9:=hS3.grown hg hrow
   dsimp only at hS9
   rw [show (acc++[x]).length=acc.length+1 by simp] at hS9
   clear hS3 hg hrow f0 f1 f2 f3 f4 f5 f6 fz y0 y1 y2 y3
   go_roundw
   case rel=>exact ⟨j+1,_,_,p3,k3,b3,by go_num,hfar2,hS9⟩
   case measure=>simp [intOf];omega
  ·
   have hst:=hfar.code hgo
   have E9:=fun kf bf=>E8.out p9 k9 b9 kf bf acc hst
   clear E8 hst
   by_cases hjn:(j:Int)<(n8:Int)
   ·
    have hk9:¬k9=0:=fun e=>hgo ⟨by omega,e⟩
    have hk2:(k9 == 0)=false:=by rw [beq_eq_false_iff_ne];exact hk9
    clear hgo hfar
    go_upto_region 15 with (fail)
    clear q0 q1 q2 q3 z hc9 hC9
    have HE:=hid_ (E9 k9 b9 (fun h=>absurd h hk9) (fun h=>absurd h hk9) (fun _=>⟨rfl,rfl⟩))
    clear E9
    have hz:=hS.z
    have hbz:=hS.below
    have hgz:g≠w.heap.size:=by have:=hS.zg;omega
    obtain ⟨r0,r1,r2,r3,r4,r5,r6,rz⟩:=aZO hz
    obtain ⟨A9,c9,q0,q1,q2,q3,z,hc9,hC9⟩:=aZX hS.rd
    clear hc9 hC9 hS
    go_wp2_with (fail)
    have t2:=dZd wr w.heap.size g 2 _ hgz q2
    have t3:=dZd wr w.heap.size g 3 _ hgz q3
    go_region
    have hZ:=zz_blk wr w.heap.size hz
    have hBZ:=fZz w wr hbz
    clear t2 t3 r0 r1 r2 r3 r4 r5 r6 rz q0 q1 q2 q3 z hz hbz
    generalize (((((((wr.setCell ⟨w.heap.size,0,none⟩ (.slice none 0 0)).setCell ⟨w.heap.size,1,none⟩ (.slice none 0 0)).setCell ⟨w.heap.size,2,none⟩ (.slice none 0 0)).setCell ⟨w.heap.size,3,none⟩ (.slice none 0 0)).setCell ⟨w.heap.size,4,none⟩ (.slice none 0 0)).setCell ⟨w.heap.size,5,none⟩ (.int .i64 0)).setCell ⟨w.heap.size,6,none⟩ (.int .i64 0))=V at hZ hBZ ⊢
    go_wp2_with (fail)
    refine bodyPost_ret (dZg _ V.drew w.heap.size #[.slice none 0 0,.slice none 0 0,.slice none 0 0,.slice none 0 0,.slice none 0 0,.int .i64 0,.int .i64 0] (.int .i64 (k9)) (.int .i64 (b9)) (by kernel_rfl) (by kernel_rfl) (by kernel_rfl) hZ (by kernel_rfl)) (by kernel_rfl) ?_
    exact ⟨g0,_,_,_,rfl,hBZ.drew,⟨_,_,_,_,_,rfl,Kd.R_nil _ _ _ _ _,Kd.R_nil _ _ _ _ _,Kd.R_nil _ _ _ _ _,Kd.R_nil _ _ _ _ _,Kd.R_nil _ _ _ _ _⟩,fZW HE.out hk9⟩
   ·
    clear hgo hfar
    go_upto_region 15 with (fail)
    by_cases hk9:k9=0
    ·
     subst hk9
     by_cases hp9:p9<(bs.length:Int)
     ·
      have HFl:=fZN bs w wr g p9 0 b9 206 p9 hS.rd hS.below
      go_wp2_with (fail)
      refine HFl.mono ?_
      rintro e w5 ⟨rfl,hI5,hB5,hK5⟩
      rw [if_pos trivial] at hI5
      have hS5:=hS.call hI5 hB5 hK5
      clear q0 q1 q2 q3 z hc9 hC9 HFl hS hI5 hB5 hK5
      have HE:=hid_ (E9 206 p9 (fun _ _=>⟨rfl,rfl⟩) (fun _ h=>absurd hp9 (by omega)) (fun h=>absurd rfl h))
      clear E9
      have hz:=hS5.z
      have hbz:=hS5.below
      have hgz:g≠w.heap.size:=by have:=hS5.zg;omega
      obtain ⟨r0,r1,r2,r3,r4,r5,r6,rz⟩:=aZO hz
      obtain ⟨A9,c9,q0,q1,q2,q3,z,hc9,hC9⟩:=aZX hS5.rd
      clear hc9 hC9 hS5
      go_wp2_with (fail)
      have t2:=dZd w5 w.heap.size g 2 _ hgz q2
      have t3:=dZd w5 w.heap.size g 3 _ hgz q3
      go_region
      have hZ:=zz_blk w5 w.heap.size hz
      have hBZ:=fZz w w5 hbz
      clear t2 t3 r0 r1 r2 r3 r4 r5 r6 rz q0 q1 q2 q3 z hz hbz
      generalize (((((((w5.setCell ⟨w.heap.size,0,none⟩ (.slice none 0 0)).setCell ⟨w.heap.size,1,none⟩ (.slice none 0 0)).setCell ⟨w.heap.size,2,none⟩ (.slice none 0 0)).setCell ⟨w.heap.size,3,none⟩ (.slice none 0 0)).setCell ⟨w.heap.size,4,none⟩ (.slice none 0 0)).setCell ⟨w.heap.size,5,none⟩ (.int .i64 0)).setCell ⟨w.heap.size,6,none⟩ (.int .i64 0))=V at hZ hBZ ⊢
      go_wp2_with (fail)
      refine bodyPost_ret (dZg _ V.drew w.heap.size #[.slice none 0 0,.slice none 0 0,.slice none 0 0,.slice none 0 0,.slice none 0 0,.int .i64 0,.int .i64 0] (.int .i64 (206)) (.int .i64 (p9)) (by kernel_rfl) (by kernel_rfl) (by kernel_rfl) hZ (by kernel_rfl)) (by kernel_rfl) ?_
      exact ⟨g0,_,_,_,rfl,hBZ.drew,⟨_,_,_,_,_,rfl,Kd.R_nil _ _ _ _ _,Kd.R_nil _ _ _ _ _,Kd.R_nil _ _ _ _ _,Kd.R_nil _ _ _ _ _,Kd.R_nil _ _ _ _ _⟩,fZW HE.out (by decide)⟩
     ·
      have HE:=hid_ (E9 0 0 (fun _ h=>absurd h hp9) (fun _ _=>rfl) (fun h=>absurd rfl h))
      clear E9
      obtain ⟨AC,cC,rfl⟩:=Kd.R_slice hS.rC
      obtain ⟨f0,f1,f2,f3,f4,f5,f6,fz⟩:=aZO hS.x
      obtain ⟨r0,r1,r2,r3,r4,r5,r6,rz⟩:=aZO hS.z
      dsimp only at f4
      go_wp2_with (fail)
      obtain ⟨d1,d2,d3⟩:=hS.done
      dsimp only at d1 d2 d3
      clear hS f0 f1 f2 f3 f4 f5 f6 fz r0 r1 r2 r3 r4 r5 r6 rz q0 q1 q2 q3 z
      change bodyPost _ _ _ _ _ (setZ wr w.heap.size (.slice AT T.length cT) (.slice AN N.length cN) (.slice AS S.length cS) (.slice AM M.length cM) (.slice AC acc.length cC) (.int .i64 dep) (.int .i64 loc))
      generalize setZ wr w.heap.size (.slice AT T.length cT) (.slice AN N.length cN) (.slice AS S.length cS) (.slice AM M.length cM) (.slice AC acc.length cC) (.int .i64 dep) (.int .i64 loc)=V at d1 d2 d3 ⊢
      refine bodyPost_ret (dZg _ V w.heap.size #[.slice AT T.length cT,.slice AN N.length cN,.slice AS S.length cS,.slice AM M.length cM,.slice AC acc.length cC,.int .i64 dep,.int .i64 loc] (.int .i64 0) (.int .i64 0) (by kernel_rfl) (by kernel_rfl) (by kernel_rfl) d2 (by kernel_rfl)) (by kernel_rfl) ?_
      exact ⟨_,_,_,_,rfl,d1,d3,ends_good HE.out⟩
    ·
     have hk2:(k9 == 0)=false:=by rw [beq_eq_false_iff_ne];exact hk9
     clear q0 q1 q2 q3 z hc9 hC9
     have HE:=hid_ (E9 k9 b9 (fun h=>absurd h hk9) (fun h=>absurd h hk9) (fun _=>⟨rfl,rfl⟩))
     clear E9
     have hz:=hS.z
     have hbz:=hS.below
     have hgz:g≠w.heap.size:=by have:=hS.zg;omega
     obtain ⟨r0,r1,r2,r3,r4,r5,r6,rz⟩:=aZO hz
     obtain ⟨A9,c9,q0,q1,q2,q3,z,hc9,hC9⟩:=aZX hS.rd
     clear hc9 hC9 hS
     go_wp2_with (fail)
     have t2:=dZd wr w.heap.size g 2 _ hgz q2
     have t3:=dZd wr w.heap.size g 3 _ hgz q3
     go_region
     have hZ:=zz_blk wr w.heap.size hz
     have hBZ:=fZz w wr hbz
     clear t2 t3 r0 r1 r2 r3 r4 r5 r6 rz q0 q1 q2 q3 z hz hbz
     generalize (((((((wr.setCell ⟨w.heap.size,0,none⟩ (.slice none 0 0)).setCell ⟨w.heap.size,1,none⟩ (.slice none 0 0)).setCell ⟨w.heap.size,2,none⟩ (.slice none 0 0)).setCell ⟨w.heap.size,3,none⟩ (.slice none 0 0)).setCell ⟨w.heap.size,4,none⟩ (.slice none 0 0)).setCell ⟨w.heap.size,5,none⟩ (.int .i64 0)).setCell ⟨w.heap.size,6,none⟩ (.int .i64 0))=V at hZ hBZ ⊢
     go_wp2_with (fail)
     refine bodyPost_ret (dZg _ V.drew w.heap.size #[.slice none 0 0,.slice none 0 0,.slice none 0 0,.slice none 0 0,.slice none 0 0,.int .i64 0,.int .i64 0] (.int .i64 (k9)) (.int .i64 (b9)) (by kernel_rfl) (by kernel_rfl) (by kernel_rfl) hZ (by kernel_rfl)) (by kernel_rfl) ?_
     exact ⟨g0,_,_,_,rfl,hBZ.drew,⟨_,_,_,_,_,rfl,Kd.R_nil _ _ _ _ _,Kd.R_nil _ _ _ _ _,Kd.R_nil _ _ _ _ _,Kd.R_nil _ _ _ _ _,Kd.R_nil _ _ _ _ _⟩,fZW HE.out hk9⟩
end Go.Proofs.Ytbnplhmmbnmagaa.D
