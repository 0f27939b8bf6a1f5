/- The audit's walks: what an instruction does to a state: words. -/
import Derived.Test.YtbnplhmmbnmagaazAMm8
import Derived.Deep.DeepCutAuto
import Derived.Deep.RegionHeld3
import Derived.Deep.RegionLaw
set_option maxHeartbeats 4000000
set_option maxRecDepth 100000
set_option linter.all false
namespace Go.Proofs.Ytbnplhmmbnmagaa.D
open Go.RowKit Go.Proofs.YtbnplhmmbnmagaaW.PrintWords Go.Proofs.YtbnplhmmbnmagaaW.PrintLast Go.Proofs.YtbnplhmmbnmagaaW.PrintMore Go.Proofs.Ytbnplhmmbnmagaa.All
def StepEnd (W:World) (base:Nat) (now:HS) (r:Except Int St) (e:Ending) (w':World):Prop :=
  match r with
  | .error n=>e=.returned (.int .i64 n)∧Below base W w'
  | .ok s=>e=.returned (.int .i64 0)∧Below base W w'∧∃ h:HS,h.p=now.p∧IsSt w' base h s∧(∀ j,h.own j→now.own j∨W.heap.size≤j)∧∀ j,j<W.heap.size→¬now.own j→w'.heap[j]?=W.heap[j]?
theorem StepEnd.err {W w':World} {base:Nat} {now:HS} {res:Except Int St} {n:Int} (h:res=.error n) (hB:Below base W w'):StepEnd W base now res (.returned (.int .i64 n)) w':=by
  subst h
  exact ⟨rfl,hB⟩
theorem aZR {W:World} {a b:Nat} {ca cb:Array Value} {t u:TypeId} (ha:W.heap[a]?=some (.cells ca t (0,0))) (hb:W.heap[b]?=some (.cells cb u (0,0))) (h:t≠u):a≠b:=by
 rintro rfl
 rw [ha] at hb
 injection hb with hb
 injection hb with _ hb
 exact h hb
def SwEnd (W5:World) (base:Nat) (n5:HS) (pt:ByteArray) (x:S66) (stk loc:List Int) (j:Bool) (first:Int) (wx:World):Prop :=
  ∃ (h:HS) (stk2 loc2:List Int),putF pt x stk loc first=.ok (stk2,loc2)∧stk2.length≤stk.length+1∧loc2.length=loc.length∧h.p=n5.p∧IsSt wx base h ⟨stk2,loc2,j⟩∧(∀ j,h.own j→n5.own j∨W5.heap.size≤j)∧Below base W5 wx∧∀ j,j<W5.heap.size→¬n5.own j→wx.heap[j]?=W5.heap[j]?
theorem dZ0 {W w1:World} {base:Nat} {h:HS} {s:St} (hs:IsSt W base h s) (hg:W.grownBy w1 h.vs.ownBlock):w1.cell? ⟨h.p,0,none⟩=some h.vs∧w1.frozen? ⟨h.p,0,none⟩=false:=by
  have hb1:w1.heap[h.p]?=some (.cells #[h.vs,h.vl,.bool s.joined] 168 (0,0)):=(hg.block h.p (aZd hs.blk) (fun e=>Row.p_ne hs.stk hs.blk h.p e.symm rfl)).trans hs.blk
  simp [World.cell?,World.frozen?,hb1]
theorem SwEnd.push {W5 w1:World} {base:Nat} {n5:HS} {pt:ByteArray} {x:S66} {stk loc:List Int} {j:Bool} {first y:Int} {v1:Value} (hT:IsSt W5 base n5 ⟨stk,loc,j⟩) (hp:putF pt x stk loc first=.ok (stk++[y],loc)) {ok:Nat→Prop} (hR:Row w1 base ok v1 (stk++[y])) (hg:W5.grownBy w1 n5.vs.ownBlock) (hv:v1.ownBlock=n5.vs.ownBlock∨∃ b,v1.ownBlock=some b∧W5.heap.size≤b) (nq:Nat) :
    SwEnd W5 base n5 pt x stk loc j first ((w1.drewN nq).setCell ⟨n5.p,0,none⟩ v1):=by
  obtain ⟨a,b,c,d⟩:=hT.push hR hg hv nq
  exact ⟨⟨n5.p,v1,n5.vl⟩,_,_,hp,by simp,rfl,rfl,a,d,b,c⟩
theorem rowsL_L:∀ i:_root_.Fin 37,(rowsL.getD i.1 z165).f2=⟨#[76]⟩→i.1=32:=by decide +kernel
theorem gZb (op:Int) (h0:1≤op) (h1:op≤36) (h:(aZg rowsL op).f2=⟨#[76]⟩):op=32:=by
  have:=rowsL_L ⟨op.toNat,by omega⟩ h
  dsimp only at this
  omega
theorem dZo {W1 W2:World} {a b c:Addr} {va vb vc:Value} (h:W1.cell? a=some va∧W1.cell? b=some vb∧W1.cell? c=some vc) (hb:Below W1.heap.size W1 W2):W2.cell? a=some va∧W2.cell? b=some vb∧W2.cell? c=some vc :=
  ⟨(hb.cell (aZG h.1)).trans h.1,(hb.cell (aZG h.2.1)).trans h.2.1,(hb.cell (aZG h.2.2)).trans h.2.2⟩
theorem aZo {W w1:World} {B:Nat} (h:Below W.drew.heap.size W.drew w1) (hB:B≤W.heap.size):Below B W w1:=⟨h.os,h.tape,h.output,h.size,fun i hi=>h.block i (Nat.lt_of_lt_of_le hi hB)⟩
theorem bZs {stk:List Int} {f:Nat} {t:ByteArray} {first:Int} {d j:Nat} (h:fitF (stk.getD (f+j) 0) (bt t j) first=false):aZA stk f t first (d+1) j=false:=by
  unfold aZA;rw [if_pos h]
theorem cZm {stk:List Int} {f:Nat} {t:ByteArray} {first:Int} {d j:Nat} (h:fitF (stk.getD (f+j) 0) (bt t j) first=true):aZA stk f t first (d+1) j=aZA stk f t first d (j+1):=by
  rw [aZA,if_neg (by rw [h];decide)]
theorem hZU (k:Wk) (W:World) (tv:Value) (most:Int) (base:Nat) (h:k.blk W tv most) (hR:Kd.C k165 W k.ar 37 rowsL) (now:HS) (s:St) (hs:IsSt W base now s) (x:S66) (h1:1≤x.f0) (h2:x.f0≤36)
 (l1:s.stk.length≤4096) (l2:s.loc.length≤4096) (hA:x.f0=31∨x.f0=32→0≤x.f1∧x.f1<s.loc.length) (hb:base≤W.heap.size) (hu:s.stk.length<(aZg rowsL x.f0).f1.size) :
 Calls Try.prog 95 #[.pointer (some ⟨k.g,0,none⟩),.pointer (some ⟨now.p,0,none⟩),.agg #[.int .i64 x.f0,.int .i64 x.f1,.int .i64 x.f2,.int .i64 x.f3]] W (StepEnd W base now (aZ2 k.dep (aZg rowsL x.f0) x s)):=by
 have hB1:Below W.heap.size W (W.alloc (.cells #[.int .i64 x.f0,.int .i64 x.f1,.int .i64 x.f2,.int .i64 x.f3] 66)):=aZa (Below.refl _ _) _
 have h':k.blk (W.alloc (.cells #[.int .i64 x.f0,.int .i64 x.f1,.int .i64 x.f2,.int .i64 x.f3] 66)) tv most:=(hB1.block _ (aZd h)).trans h
 have hR':=Kd.C_below hR hB1
 have hs':=hs.below hB1
 have hx:=heap_alloc_new W (.cells #[.int .i64 x.f0,.int .i64 x.f1,.int .i64 x.f2,.int .i64 x.f3] 66)
 obtain ⟨t0,t1,t2⟩:=bZI x.f0 h1 h2
 obtain ⟨ar,har,r0,r1,r2⟩:=cZZ hR' x.f0 (by omega) (by omega)
 have HL:=hid_ (gZb x.f0 h1 h2)
 have HA:=hid_ hA
 clear hA
 generalize aZg rowsL x.f0=r at *
 generalize hres:aZ2 k.dep r x s=res
 have HRES:=hid_ hres
 clear hres
 go_enter Try.func95,Try.ntmps95
 go_upto_region 1 with (fail)
 generalize (W.alloc (.cells #[.int .i64 x.f0,.int .i64 x.f1,.int .i64 x.f2,.int .i64 x.f3] 66))=W1 at *
 obtain ⟨-,-,-,-,-,-,-,q7,-⟩:=Wk.cells h'
 rw [har] at q7
 have y0:W1.cell? ⟨W.heap.size,0,none⟩=some (.int .i64 x.f0):=by simp [World.cell?,hx]
 have i0:0≤x.f0:=by omega
 have i1:x.f0<37:=by omega
 have n1:=World.new_ne W1 _ q7
 have n2:=World.new_ne W1 _ y0
 have n3:=World.new_ne W1 _ r0
 have n4:=World.new_ne W1 _ r1
 have n5:=World.new_ne W1 _ r2
 go_cut [7] (fun s7 wx=>∃ g:Nat,s7=.pointer (some ⟨g,0,none⟩)∧wx.heap[g]?=some (.cells #[.string r.f0,.string r.f1,.string r.f2] 165 (0,0))∧Below W1.heap.size W1 wx)
 case first =>
  go_region_held3 (fun w'=>w'.cell? ⟨k.g,7,none⟩=some (.slice (some ar) 37 k.cr)∧w'.cell? ⟨W.heap.size,0,none⟩=some (.int .i64 x.f0)∧w'.cell? (ar.add (x.f0.toNat*3))=some (.string r.f0)∧w'.cell? ⟨(ar.add (x.f0.toNat*3)).block,(ar.add (x.f0.toNat*3)).off+1,none⟩=some (.string r.f1)∧w'.cell? ⟨(ar.add (x.f0.toNat*3)).block,(ar.add (x.f0.toNat*3)).off+2,none⟩=some (.string r.f2)) (go_keep) (fail)
  all_goals (go_wp2_with (fail);go_meet;exact ⟨_,rfl,heap_alloc_new _ _,(aZa (Below.refl _ _) _).drew⟩)
 case rest =>
  obtain ⟨g,rfl,hg,hBx⟩:=hcut
  have hB2:Below W.heap.size W wc:=hB1.trans (hBx.mono hB1.size)
  have hX:wc.heap[W.heap.size]?=some (.cells #[.int .i64 x.f0,.int .i64 x.f1,.int .i64 x.f2,.int .i64 x.f3] 66 (0,0)):=(hBx.block _ (aZd hx)).trans hx
  have hK:=(hBx.block _ (aZd h')).trans h'
  have hS:=hs'.below hBx
  clear hBx h' hR' hs' hx r0 r1 r2 har q7 y0 n1 n2 n3 n4 n5 hB1 t0
  clear W1
  obtain ⟨A1,c1,e1,k1,r1⟩:=Kd.R_reads hS.stk
  obtain ⟨v0,v1,-,z0,-⟩:=hS.cells
  rw [e1] at v0
  have g1:wc.cell? ⟨g,1,none⟩=some (.string r.f1):=by simp [World.cell?,hg]
  have hres:=HRES.out.symm.trans (gZQ k.dep r x s hu)
  have HE:=hid_ hres
  clear hres
  have ew:IntKind.i64.wrap ((s.stk.length:Int) - (r.f1.size:Int))=(s.stk.length:Int) - (r.f1.size:Int):=IntWalk.i64_in _ ⟨by omega,by omega⟩
  have hlt:((s.stk.length:Int) - (r.f1.size:Int)<0):=by omega
  go_wp2_with (fail)
  go_quiet (fail)
  go_wp2_with (fail)
  go_ret
  exact StepEnd.err HE.out (aZb (hB2.mono hb) nq)
theorem step_kind (k:Wk) (W:World) (tv:Value) (most:Int) (base:Nat) (h:k.blk W tv most) (hR:Kd.C k165 W k.ar 37 rowsL) (now:HS) (s:St) (hs:IsSt W base now s) (x:S66) (h1:1≤x.f0) (h2:x.f0≤36)
 (l1:s.stk.length≤4096) (l2:s.loc.length≤4096) (hA:x.f0=31∨x.f0=32→0≤x.f1∧x.f1<s.loc.length) (hb:base≤W.heap.size) (f:Nat) (hf:s.stk.length=f+(aZg rowsL x.f0).f1.size) (hfit:aZA s.stk f (aZg rowsL x.f0).f1 (aZM s.stk f (aZg rowsL x.f0).f1.size) (aZg rowsL x.f0).f1.size 0=false) :
 Calls Try.prog 95 #[.pointer (some ⟨k.g,0,none⟩),.pointer (some ⟨now.p,0,none⟩),.agg #[.int .i64 x.f0,.int .i64 x.f1,.int .i64 x.f2,.int .i64 x.f3]] W (StepEnd W base now (aZ2 k.dep (aZg rowsL x.f0) x s)):=by
 have hB1:Below W.heap.size W (W.alloc (.cells #[.int .i64 x.f0,.int .i64 x.f1,.int .i64 x.f2,.int .i64 x.f3] 66)):=aZa (Below.refl _ _) _
 have h':k.blk (W.alloc (.cells #[.int .i64 x.f0,.int .i64 x.f1,.int .i64 x.f2,.int .i64 x.f3] 66)) tv most:=(hB1.block _ (aZd h)).trans h
 have hR':=Kd.C_below hR hB1
 have hs':=hs.below hB1
 have hx:=heap_alloc_new W (.cells #[.int .i64 x.f0,.int .i64 x.f1,.int .i64 x.f2,.int .i64 x.f3] 66)
 obtain ⟨t0,t1,t2⟩:=bZI x.f0 h1 h2
 obtain ⟨ar,har,r0,r1,r2⟩:=cZZ hR' x.f0 (by omega) (by omega)
 have HL:=hid_ (gZb x.f0 h1 h2)
 have HA:=hid_ hA
 have HF:=hid_ hf
 have HFIT0:=hid_ hfit
 clear hf hfit
 clear hA
 generalize aZg rowsL x.f0=r at *
 generalize hres:aZ2 k.dep r x s=res
 have HRES:=hid_ hres
 clear hres
 go_enter Try.func95,Try.ntmps95
 go_upto_region 1 with (fail)
 generalize (W.alloc (.cells #[.int .i64 x.f0,.int .i64 x.f1,.int .i64 x.f2,.int .i64 x.f3] 66))=W1 at *
 obtain ⟨-,-,-,-,-,-,-,q7,-⟩:=Wk.cells h'
 rw [har] at q7
 have y0:W1.cell? ⟨W.heap.size,0,none⟩=some (.int .i64 x.f0):=by simp [World.cell?,hx]
 have i0:0≤x.f0:=by omega
 have i1:x.f0<37:=by omega
 have n1:=World.new_ne W1 _ q7
 have n2:=World.new_ne W1 _ y0
 have n3:=World.new_ne W1 _ r0
 have n4:=World.new_ne W1 _ r1
 have n5:=World.new_ne W1 _ r2
 go_cut [7] (fun s7 wx=>∃ g:Nat,s7=.pointer (some ⟨g,0,none⟩)∧wx.heap[g]?=some (.cells #[.string r.f0,.string r.f1,.string r.f2] 165 (0,0))∧Below W1.heap.size W1 wx)
 case first =>
  go_region_held3 (fun w'=>w'.cell? ⟨k.g,7,none⟩=some (.slice (some ar) 37 k.cr)∧w'.cell? ⟨W.heap.size,0,none⟩=some (.int .i64 x.f0)∧w'.cell? (ar.add (x.f0.toNat*3))=some (.string r.f0)∧w'.cell? ⟨(ar.add (x.f0.toNat*3)).block,(ar.add (x.f0.toNat*3)).off+1,none⟩=some (.string r.f1)∧w'.cell? ⟨(ar.add (x.f0.toNat*3)).block,(ar.add (x.f0.toNat*3)).off+2,none⟩=some (.string r.f2)) (go_keep) (fail)
  all_goals (go_wp2_with (fail);go_meet;exact ⟨_,rfl,heap_alloc_new _ _,(aZa (Below.refl _ _) _).drew⟩)
 case rest =>
  obtain ⟨g,rfl,hg,hBx⟩:=hcut
  have hB2:Below W.heap.size W wc:=hB1.trans (hBx.mono hB1.size)
  have hX:wc.heap[W.heap.size]?=some (.cells #[.int .i64 x.f0,.int .i64 x.f1,.int .i64 x.f2,.int .i64 x.f3] 66 (0,0)):=(hBx.block _ (aZd hx)).trans hx
  have hK:=(hBx.block _ (aZd h')).trans h'
  have hS:=hs'.below hBx
  clear hBx h' hR' hs' hx r0 r1 r2 har q7 y0 n1 n2 n3 n4 n5 hB1 t0
  clear W1
  obtain ⟨A1,c1,e1,k1,r1⟩:=Kd.R_reads hS.stk
  obtain ⟨v0,v1,-,z0,-⟩:=hS.cells
  rw [e1] at v0
  have g1:wc.cell? ⟨g,1,none⟩=some (.string r.f1):=by simp [World.cell?,hg]
  have ew:IntKind.i64.wrap ((s.stk.length:Int) - (r.f1.size:Int))=(f:Int):=(IntWalk.i64_in _ ⟨by have:=HF.out;omega,by have:=HF.out;omega⟩).trans (by have:=HF.out;omega)
  go_wp2_with (fail)
  go_quiet (fail)
  clear ew
  have hB3:Below W.heap.size W (wc.drewN nq):=aZb hB2 nq
  have hX3:(wc.drewN nq).heap[W.heap.size]?=some (.cells #[.int .i64 x.f0,.int .i64 x.f1,.int .i64 x.f2,.int .i64 x.f3] 66 (0,0)):=hX
  have hg3:(wc.drewN nq).heap[g]?=some (.cells #[.string r.f0,.string r.f1,.string r.f2] 165 (0,0)):=hg
  have hK3:k.blk (wc.drewN nq) tv most:=hK
  have hS3:IsSt (wc.drewN nq) base now s:=hS.keep (fun _ _ _=>rfl)
  clear hB2 hX hg hK hS v0 v1 z0 g1 r1
  generalize wc.drewN nq=V at hB3 hX3 hg3 hK3 hS3 ⊢
  clear wc
  have g1:V.cell? ⟨g,1,none⟩=some (.string r.f1):=by simp [World.cell?,hg3]
  go_upto_block 0 with (fail)
  generalize hfs:aZM s.stk f r.f1.size=first
  have HFIT:Hid (aZA s.stk f r.f1 first r.f1.size 0=false):=hid_ (hfs▸HFIT0.out)
  clear HFIT0
  have HFS:=hid_ hfs
  clear hfs
  go_cut [9] (fun s9 wx=>s9=.int .i64 first∧aZA s.stk f r.f1 first r.f1.size 0=true∧Below V.heap.size V wx)
  case first =>
   go_wp2_with (fail)
   go_loopw [33,9] (fun i u wr=>∃ j:Nat,j≤r.f1.size∧i=.int .i64 j∧u=.int .i64 (if j=0 then 0 else first)∧Below V.heap.size V wr∧Hid (aZA s.stk f r.f1 first r.f1.size 0=aZA s.stk f r.f1 first (r.f1.size - j) j)) (fun i _ _=>r.f1.size - (intOf i).toNat)
   case atStart=>exact ⟨0,by omega,rfl,rfl,Below.refl _ _,hid_ rfl⟩
   case round =>
    obtain ⟨j,hj,rfl,rfl,hBr,HFT⟩:=hrel
    have hSr:=hS3.below hBr
    obtain ⟨v0,-,-,-,-⟩:=hSr.cells
    rw [e1] at v0
    have g1r:=(hBr.cell (aZG g1)).trans g1
    clear g1
    by_cases hlt:j<r.f1.size
    ·
     have hst:=hSr.stk
     rw [e1] at hst
     obtain ⟨A2,c2,e2,-,r2⟩:=Kd.R_reads hst
     cases e2
     obtain ⟨ad,rfl,cb⟩:=Kd.at_int r2 ((f+j:Nat):Int) (by omega) (by have:=HF.out;omega)
     rw [Int.toNat_natCast] at cb
     have b1:=ixs r.f1 (j:Int) (by omega) (by omega)
     have hd:r.f1.size - j=(r.f1.size - j - 1)+1:=by omega
     have HN:Hid (fitF (s.stk.getD (f+j) 0) (bt r.f1 j) first=false→res=.error 215):=hid_ (fun h=>HRES.out.symm.trans (bZU k.dep r x s f HF.out (by rw [HFS.out,HFT.out,hd];exact bZs h)))
     have HY:Hid (fitF (s.stk.getD (f+j) 0) (bt r.f1 j) first=true→aZA s.stk f r.f1 first (r.f1.size - j) j=aZA s.stk f r.f1 first (r.f1.size - (j+1)) (j+1)):=hid_ (fun h=>by rw [hd,cZm h,show r.f1.size - j - 1=r.f1.size - (j+1) by omega])
     have hb':=hb
     have hr:rd s.stk ((f+j:Nat):Int)=s.stk.getD (f+j) 0:=by unfold rd;rw [Int.toNat_natCast]
     rw [hr] at cb
     have hf0:j=0→first=s.stk.getD (f+j) 0:=fun h=>by subst h;rw [←HFS.out];unfold aZM;rw [if_pos (by omega)];rfl
     generalize s.stk.getD (f+j) 0=c at cb HN HY hf0
     generalize bt r.f1 (j:Int)=l at b1 HN HY
     clear hr hd
     have q0:(0:Int)≤(f:Int):=by omega
     have q1:(f:Int)<(s.stk.length:Int):=by have:=HF.out;omega
     have q2:(0:Int)≤(f:Int)+(j:Int):=by omega
     have q3:(f:Int)+(j:Int)<(s.stk.length:Int):=by have:=HF.out;omega
     by_cases hj0:j=0
     ·
      subst hj0
      have hff:=hf0 rfl
      subst hff
      clear hf0
      rw [Nat.add_zero] at cb
      rw [show ((0:Nat):Int)=(0:Int) from rfl] at b1
      clear q2 q3
      have ewj:IntKind.i64.wrap (f:Int)=(f:Int):=IntWalk.i64_in _ ⟨by omega,by omega⟩
      rw [Nat.zero_add] at HY
      have hfc:=fun (W:World)=>bZP first l first W
      generalize hb:fitF first l first=b at hfc HN HY
      clear hb
      cases b with
      | false =>
       have hE:=fun (w':World)=>StepEnd.err (W:=W) (w':=w') (base:=base) (now:=now) (HN.out (by first|rfl|trivial))
       have HE:=hid_ hE
       clear hE
       go_wp2_with (fail)
       go_region_held3 (fun w'=>w'.cell? ⟨now.p,0,none⟩=some (.slice (some ad) s.stk.length c1)∧w'.cell? (ad.add (f))=some (.int .i64 first)∧w'.cell? ⟨g,1,none⟩=some (.string r.f1)) (first|exact ⟨v0,cb,g1r⟩|exact dZo (by assumption) bel1) ((go_at_call 106;(with_reducible refine (hfc _).mono ?_);rintro e w1 ⟨rfl,bel1⟩))
       go_wp2_with (fail)
       go_ret
       exact HE.out _ (((hB3.trans (hBr.mono hB3.size)).trans (aZo bel1 (Nat.le_trans hB3.size hBr.size))).mono hb')
      | true =>
       go_wp2_with (fail)
       go_region_held3 (fun w'=>w'.cell? ⟨now.p,0,none⟩=some (.slice (some ad) s.stk.length c1)∧w'.cell? (ad.add (f))=some (.int .i64 first)∧w'.cell? ⟨g,1,none⟩=some (.string r.f1)) (first|exact ⟨v0,cb,g1r⟩|exact dZo (by assumption) bel1) ((go_at_call 106;(with_reducible refine (hfc _).mono ?_);rintro e w1 ⟨rfl,bel1⟩))
       go_wp2_with (fail)
       go_roundw
       case rel=>exact ⟨1,by omega,by go_num,by simp,hBr.trans (aZo bel1 hBr.size),hid_ (HFT.out.trans (HY.out (by first|rfl|trivial)))⟩
       case measure=>simp [intOf];omega
     ·
      have dj:((j:Int) == 0)=false:=by rw [beq_eq_false_iff_ne];omega
      rw [if_neg hj0]
      clear hf0
      have q4:((f:Int)+(j:Int)).toNat=f+j:=by omega
      have ewj:IntKind.i64.wrap ((f:Int)+(j:Int))=(f:Int)+(j:Int):=IntWalk.i64_in _ ⟨by omega,by omega⟩
      have hfc:=fun (W:World)=>bZP c l first W
      generalize hb:fitF c l first=b at hfc HN HY
      clear hb
      cases b with
      | false =>
       have hE:=fun (w':World)=>StepEnd.err (W:=W) (w':=w') (base:=base) (now:=now) (HN.out (by first|rfl|trivial))
       have HE:=hid_ hE
       clear hE
       go_wp2_with (fail)
       go_region_held3 (fun w'=>w'.cell? ⟨now.p,0,none⟩=some (.slice (some ad) s.stk.length c1)∧w'.cell? (ad.add (f+j))=some (.int .i64 c)∧w'.cell? ⟨g,1,none⟩=some (.string r.f1)) (first|exact ⟨v0,cb,g1r⟩|exact dZo (by assumption) bel1) ((go_at_call 106;(with_reducible refine (hfc _).mono ?_);rintro e w1 ⟨rfl,bel1⟩))
       go_wp2_with (fail)
       go_ret
       exact HE.out _ (((hB3.trans (hBr.mono hB3.size)).trans (aZo bel1 (Nat.le_trans hB3.size hBr.size))).mono hb')
      | true =>
       go_wp2_with (fail)
       go_region_held3 (fun w'=>w'.cell? ⟨now.p,0,none⟩=some (.slice (some ad) s.stk.length c1)∧w'.cell? (ad.add (f+j))=some (.int .i64 c)∧w'.cell? ⟨g,1,none⟩=some (.string r.f1)) (first|exact ⟨v0,cb,g1r⟩|exact dZo (by assumption) bel1) ((go_at_call 106;(with_reducible refine (hfc _).mono ?_);rintro e w1 ⟨rfl,bel1⟩))
       go_wp2_with (fail)
       go_roundw
       case rel=>exact ⟨j+1,by omega,by go_num,by simp,hBr.trans (aZo bel1 hBr.size),hid_ (HFT.out.trans (HY.out (by first|rfl|trivial)))⟩
       case measure=>simp [intOf];omega
    ·
     have hje:j=r.f1.size:=by omega
     have hfin:aZA s.stk f r.f1 first r.f1.size 0=true:=by rw [HFT.out,hje,Nat.sub_self];rfl
     have hfv:(if j=0 then (0:Int) else first)=first:=by
      by_cases hj0:j=0
      · rw [if_pos hj0,←HFS.out];unfold aZM;rw [if_neg (by omega)]
      · rw [if_neg hj0]
     rw [hfv]
     clear hfv
     have hge:¬(j:Int)<(r.f1.size:Int):=by omega
     go_wp2_with (fail)
     go_meet
     exact ⟨rfl,hfin,hBr⟩
  case rest =>
   obtain ⟨rfl,hfit,hBv⟩:=hcut
   have h3:=HFIT.out
   rw [hfit] at h3
   cases h3
theorem step_putA (k:Wk) (W:World) (tv:Value) (most:Int) (base:Nat) (h:k.blk W tv most) (hR:Kd.C k165 W k.ar 37 rowsL) (now:HS) (s:St) (hs:IsSt W base now s) (x:S66) (h1:1≤x.f0) (h2:x.f0≤36)
 (l1:s.stk.length≤4096) (l2:s.loc.length≤4096) (hA:x.f0=31∨x.f0=32→0≤x.f1∧x.f1<s.loc.length) (hb:base≤W.heap.size) (f:Nat) (hf:s.stk.length=f+(aZg rowsL x.f0).f1.size) (hfit:aZA s.stk f (aZg rowsL x.f0).f1 (aZM s.stk f (aZg rowsL x.f0).f1.size) (aZg rowsL x.f0).f1.size 0=true) (hpt:(aZg rowsL x.f0).f2=⟨#[]⟩) (h31:x.f0=31) :
 Calls Try.prog 95 #[.pointer (some ⟨k.g,0,none⟩),.pointer (some ⟨now.p,0,none⟩),.agg #[.int .i64 x.f0,.int .i64 x.f1,.int .i64 x.f2,.int .i64 x.f3]] W (StepEnd W base now (aZ2 k.dep (aZg rowsL x.f0) x s)):=by
 have hB1:Below W.heap.size W (W.alloc (.cells #[.int .i64 x.f0,.int .i64 x.f1,.int .i64 x.f2,.int .i64 x.f3] 66)):=aZa (Below.refl _ _) _
 have h':k.blk (W.alloc (.cells #[.int .i64 x.f0,.int .i64 x.f1,.int .i64 x.f2,.int .i64 x.f3] 66)) tv most:=(hB1.block _ (aZd h)).trans h
 have hR':=Kd.C_below hR hB1
 have hs':=hs.below hB1
 have hx:=heap_alloc_new W (.cells #[.int .i64 x.f0,.int .i64 x.f1,.int .i64 x.f2,.int .i64 x.f3] 66)
 obtain ⟨t0,t1,t2⟩:=bZI x.f0 h1 h2
 obtain ⟨ar,har,r0,r1,r2⟩:=cZZ hR' x.f0 (by omega) (by omega)
 have HL:=hid_ (gZb x.f0 h1 h2)
 have HA:=hid_ hA
 have HF:=hid_ hf
 have HFIT0:=hid_ hfit
 have HPT:=hid_ hpt
 clear hf hfit hpt
 have H31:=hid_ h31
 clear h31
 clear hA
 generalize aZg rowsL x.f0=r at *
 generalize hres:aZ2 k.dep r x s=res
 have HRES:=hid_ hres
 clear hres
 go_enter Try.func95,Try.ntmps95
 go_upto_region 1 with (fail)
 generalize (W.alloc (.cells #[.int .i64 x.f0,.int .i64 x.f1,.int .i64 x.f2,.int .i64 x.f3] 66))=W1 at *
 obtain ⟨-,-,-,-,-,-,-,q7,-⟩:=Wk.cells h'
 rw [har] at q7
 have y0:W1.cell? ⟨W.heap.size,0,none⟩=some (.int .i64 x.f0):=by simp [World.cell?,hx]
 have i0:0≤x.f0:=by omega
 have i1:x.f0<37:=by omega
 have n1:=World.new_ne W1 _ q7
 have n2:=World.new_ne W1 _ y0
 have n3:=World.new_ne W1 _ r0
 have n4:=World.new_ne W1 _ r1
 have n5:=World.new_ne W1 _ r2
 go_cut [7] (fun s7 wx=>∃ g:Nat,s7=.pointer (some ⟨g,0,none⟩)∧wx.heap[g]?=some (.cells #[.string r.f0,.string r.f1,.string r.f2] 165 (0,0))∧Below W1.heap.size W1 wx)
 case first =>
  go_region_held3 (fun w'=>w'.cell? ⟨k.g,7,none⟩=some (.slice (some ar) 37 k.cr)∧w'.cell? ⟨W.heap.size,0,none⟩=some (.int .i64 x.f0)∧w'.cell? (ar.add (x.f0.toNat*3))=some (.string r.f0)∧w'.cell? ⟨(ar.add (x.f0.toNat*3)).block,(ar.add (x.f0.toNat*3)).off+1,none⟩=some (.string r.f1)∧w'.cell? ⟨(ar.add (x.f0.toNat*3)).block,(ar.add (x.f0.toNat*3)).off+2,none⟩=some (.string r.f2)) (go_keep) (fail)
  all_goals (go_wp2_with (fail);go_meet;exact ⟨_,rfl,heap_alloc_new _ _,(aZa (Below.refl _ _) _).drew⟩)
 case rest =>
  obtain ⟨g,rfl,hg,hBx⟩:=hcut
  have hB2:Below W.heap.size W wc:=hB1.trans (hBx.mono hB1.size)
  have hX:wc.heap[W.heap.size]?=some (.cells #[.int .i64 x.f0,.int .i64 x.f1,.int .i64 x.f2,.int .i64 x.f3] 66 (0,0)):=(hBx.block _ (aZd hx)).trans hx
  have hK:=(hBx.block _ (aZd h')).trans h'
  have hS:=hs'.below hBx
  clear hBx h' hR' hs' hx r0 r1 r2 har q7 y0 n1 n2 n3 n4 n5 hB1 t0
  clear W1
  obtain ⟨A1,c1,e1,k1,r1⟩:=Kd.R_reads hS.stk
  obtain ⟨v0,v1,-,z0,-⟩:=hS.cells
  rw [e1] at v0
  have g1:wc.cell? ⟨g,1,none⟩=some (.string r.f1):=by simp [World.cell?,hg]
  have ew:IntKind.i64.wrap ((s.stk.length:Int) - (r.f1.size:Int))=(f:Int):=(IntWalk.i64_in _ ⟨by have:=HF.out;omega,by have:=HF.out;omega⟩).trans (by have:=HF.out;omega)
  go_wp2_with (fail)
  go_quiet (fail)
  clear ew
  have hB3:Below W.heap.size W (wc.drewN nq):=aZb hB2 nq
  have hX3:(wc.drewN nq).heap[W.heap.size]?=some (.cells #[.int .i64 x.f0,.int .i64 x.f1,.int .i64 x.f2,.int .i64 x.f3] 66 (0,0)):=hX
  have hg3:(wc.drewN nq).heap[g]?=some (.cells #[.string r.f0,.string r.f1,.string r.f2] 165 (0,0)):=hg
  have hK3:k.blk (wc.drewN nq) tv most:=hK
  have hS3:IsSt (wc.drewN nq) base now s:=hS.keep (fun _ _ _=>rfl)
  clear hB2 hX hg hK hS v0 v1 z0 g1 r1
  generalize wc.drewN nq=V at hB3 hX3 hg3 hK3 hS3 ⊢
  clear wc
  have g1:V.cell? ⟨g,1,none⟩=some (.string r.f1):=by simp [World.cell?,hg3]
  go_upto_block 0 with (fail)
  generalize hfs:aZM s.stk f r.f1.size=first
  have HFIT:Hid (aZA s.stk f r.f1 first r.f1.size 0=true):=hid_ (hfs▸HFIT0.out)
  clear HFIT0
  have HFS:=hid_ hfs
  clear hfs
  go_cut [9] (fun s9 wx=>s9=.int .i64 first∧aZA s.stk f r.f1 first r.f1.size 0=true∧Below V.heap.size V wx)
  case first =>
   go_wp2_with (fail)
   go_loopw [33,9] (fun i u wr=>∃ j:Nat,j≤r.f1.size∧i=.int .i64 j∧u=.int .i64 (if j=0 then 0 else first)∧Below V.heap.size V wr∧Hid (aZA s.stk f r.f1 first r.f1.size 0=aZA s.stk f r.f1 first (r.f1.size - j) j)) (fun i _ _=>r.f1.size - (intOf i).toNat)
   case atStart=>exact ⟨0,by omega,rfl,rfl,Below.refl _ _,hid_ rfl⟩
   case round =>
    obtain ⟨j,hj,rfl,rfl,hBr,HFT⟩:=hrel
    have hSr:=hS3.below hBr
    obtain ⟨v0,-,-,-,-⟩:=hSr.cells
    rw [e1] at v0
    have g1r:=(hBr.cell (aZG g1)).trans g1
    clear g1
    by_cases hlt:j<r.f1.size
    ·
     have hst:=hSr.stk
     rw [e1] at hst
     obtain ⟨A2,c2,e2,-,r2⟩:=Kd.R_reads hst
     cases e2
     obtain ⟨ad,rfl,cb⟩:=Kd.at_int r2 ((f+j:Nat):Int) (by omega) (by have:=HF.out;omega)
     rw [Int.toNat_natCast] at cb
     have b1:=ixs r.f1 (j:Int) (by omega) (by omega)
     have hd:r.f1.size - j=(r.f1.size - j - 1)+1:=by omega
     have HN:Hid (fitF (s.stk.getD (f+j) 0) (bt r.f1 j) first=false→res=.error 215):=hid_ (fun h=>HRES.out.symm.trans (bZU k.dep r x s f HF.out (by rw [HFS.out,HFT.out,hd];exact bZs h)))
     have HY:Hid (fitF (s.stk.getD (f+j) 0) (bt r.f1 j) first=true→aZA s.stk f r.f1 first (r.f1.size - j) j=aZA s.stk f r.f1 first (r.f1.size - (j+1)) (j+1)):=hid_ (fun h=>by rw [hd,cZm h,show r.f1.size - j - 1=r.f1.size - (j+1) by omega])
     have hb':=hb
     have HB : Hid (fitF (s.stk.getD (f + j) 0) (bt r.f1 j) first = true) := hid_ (by
      cases hbb:fitF (s.stk.getD (f+j) 0) (bt r.f1 j) first with
      | true=>rfl
      | false =>
       have h3:=HFIT.out
       rw [HFT.out,hd,bZs hbb] at h3
       cases h3)
     have hr:rd s.stk ((f+j:Nat):Int)=s.stk.getD (f+j) 0:=by unfold rd;rw [Int.toNat_natCast]
     rw [hr] at cb
     have hf0:j=0→first=s.stk.getD (f+j) 0:=fun h=>by subst h;rw [←HFS.out];unfold aZM;rw [if_pos (by omega)];rfl
     generalize s.stk.getD (f+j) 0=c at cb HN HY hf0 HB
     generalize bt r.f1 (j:Int)=l at b1 HN HY HB
     clear hr hd
     have q0:(0:Int)≤(f:Int):=by omega
     have q1:(f:Int)<(s.stk.length:Int):=by have:=HF.out;omega
     have q2:(0:Int)≤(f:Int)+(j:Int):=by omega
     have q3:(f:Int)+(j:Int)<(s.stk.length:Int):=by have:=HF.out;omega
     by_cases hj0:j=0
     ·
      subst hj0
      have hff:=hf0 rfl
      subst hff
      clear hf0
      rw [Nat.add_zero] at cb
      rw [show ((0:Nat):Int)=(0:Int) from rfl] at b1
      clear q2 q3
      have ewj:IntKind.i64.wrap (f:Int)=(f:Int):=IntWalk.i64_in _ ⟨by omega,by omega⟩
      rw [Nat.zero_add] at HY
      have hfc:=fun (W:World)=>bZP first l first W
      generalize hb:fitF first l first=b at hfc HN HY HB
      clear hb
      obtain rfl:b=true:=HB.out
      go_wp2_with (fail)
      go_region_held3 (fun w'=>w'.cell? ⟨now.p,0,none⟩=some (.slice (some ad) s.stk.length c1)∧w'.cell? (ad.add (f))=some (.int .i64 first)∧w'.cell? ⟨g,1,none⟩=some (.string r.f1)) (first|exact ⟨v0,cb,g1r⟩|exact dZo (by assumption) bel1) ((go_at_call 106;(with_reducible refine (hfc _).mono ?_);rintro e w1 ⟨rfl,bel1⟩))
      go_wp2_with (fail)
      go_roundw
      case rel=>exact ⟨1,by omega,by go_num,by simp,hBr.trans (aZo bel1 hBr.size),hid_ (HFT.out.trans (HY.out (by first|rfl|trivial)))⟩
      case measure=>simp [intOf];omega
     ·
      have dj:((j:Int) == 0)=false:=by rw [beq_eq_false_iff_ne];omega
      rw [if_neg hj0]
      clear hf0
      have q4:((f:Int)+(j:Int)).toNat=f+j:=by omega
      have ewj:IntKind.i64.wrap ((f:Int)+(j:Int))=(f:Int)+(j:Int):=IntWalk.i64_in _ ⟨by omega,by omega⟩
      have hfc:=fun (W:World)=>bZP c l first W
      generalize hb:fitF c l first=b at hfc HN HY HB
      clear hb
      obtain rfl:b=true:=HB.out
      go_wp2_with (fail)
      go_region_held3 (fun w'=>w'.cell? ⟨now.p,0,none⟩=some (.slice (some ad) s.stk.length c1)∧w'.cell? (ad.add (f+j))=some (.int .i64 c)∧w'.cell? ⟨g,1,none⟩=some (.string r.f1)) (first|exact ⟨v0,cb,g1r⟩|exact dZo (by assumption) bel1) ((go_at_call 106;(with_reducible refine (hfc _).mono ?_);rintro e w1 ⟨rfl,bel1⟩))
      go_wp2_with (fail)
      go_roundw
      case rel=>exact ⟨j+1,by omega,by go_num,by simp,hBr.trans (aZo bel1 hBr.size),hid_ (HFT.out.trans (HY.out (by first|rfl|trivial)))⟩
      case measure=>simp [intOf];omega
    ·
     have hje:j=r.f1.size:=by omega
     have hfin:aZA s.stk f r.f1 first r.f1.size 0=true:=by rw [HFT.out,hje,Nat.sub_self];rfl
     have hfv:(if j=0 then (0:Int) else first)=first:=by
      by_cases hj0:j=0
      · rw [if_pos hj0,←HFS.out];unfold aZM;rw [if_neg (by omega)]
      · rw [if_neg hj0]
     rw [hfv]
     clear hfv
     have hge:¬(j:Int)<(r.f1.size:Int):=by omega
     go_wp2_with (fail)
     go_meet
     exact ⟨rfl,hfin,hBr⟩
  case rest =>
   obtain ⟨rfl,hfit,hBv⟩:=hcut
   have hput:=HRES.out.symm.trans (cZw k.dep r x s f HF.out (by rw [HFS.out];exact hfit))
   rw [HFS.out] at hput
   have HP:=hid_ hput
   clear hput hfit HRES HFS
   have hf:f≤s.stk.length:=by have:=HF.out;omega
   have hS4:=hS3.below hBv
   have hX4:=(hBv.block _ (aZd hX3)).trans hX3
   have hg4:=(hBv.block _ (aZd hg3)).trans hg3
   have hK4:=(hBv.block _ (aZd hK3)).trans hK3
   have hB4:Below W.heap.size W wc:=hB3.trans (hBv.mono hB3.size)
   clear hBv hX3 hg3 hK3 hS3 hB3 g1
   clear V
   obtain ⟨v0,-,-,z0,-⟩:=hS4.cells
   rw [e1] at v0
   have hsl:=fun (w:World)=>dZf (A:=A1) k1 f hf w
   have hg42:wc.cell? ⟨g,2,none⟩=some (.string r.f2):=by simp [World.cell?,hg4]
   go_upto_block 2 with (fail)
   obtain ⟨hT,hTB,hTf,hTo⟩:=hS4.take e1 hf
   have hX5:=(hTf _ (aZR hX4 hS4.blk (by decide))).trans hX4
   have hg5:=(hTf _ (aZR hg4 hS4.blk (by decide))).trans hg4
   have hK5:k.blk (wc.setCell ⟨now.p,0,none⟩ (.slice A1 f c1)) tv most:=(hTf _ (aZR hK4 hS4.blk (by decide))).trans hK4
   have lS:=hTB.size
   have lB:=hB4.size
   have fB:∀ j,j<W.heap.size→¬now.own j→(wc.setCell ⟨now.p,0,none⟩ (.slice A1 f c1)).heap[j]?=W.heap[j]?:=fun j hj hn=>(hTf j (fun e=>hn (.inl e))).trans (hB4.block j hj)
   have hB5:Below base W (wc.setCell ⟨now.p,0,none⟩ (.slice A1 f c1)):=(hB4.mono hb).trans hTB
   clear hsl hg42 v0 z0 hS4 hX4 hg4 hK4 hTB hTf hB4
   generalize wc.setCell ⟨now.p,0,none⟩ (.slice A1 f c1)=W5 at *
   have hTn:=hT.stk
   have hl0:(s.stk.take f).length=f:=by rw [List.length_take];omega
   generalize s.stk.take f=stk at hT hl0 HP
   obtain ⟨v0,v1,-,z0,-⟩:=hT.cells
   dsimp only at v0 v1 z0
   clear hTn
   generalize hpt2:r.f2=pt at *
   clear hpt2
   have x0:W5.cell? ⟨W.heap.size,0,none⟩=some (.int .i64 x.f0):=by simp [World.cell?,hX5]
   have x1:W5.cell? ⟨W.heap.size,1,none⟩=some (.int .i64 x.f1):=by simp [World.cell?,hX5]
   go_cut [] (fun wx=>SwEnd W5 base ⟨now.p,.slice A1 f c1,now.vl⟩ pt x stk s.loc s.joined first wx)
   case first =>
    have hpt:=HPT.out
    have h31:=H31.out
    subst hpt
    have hlo:=HA.out (.inl h31)
    have d31:(x.f0 == 31)=true:=by rw [beq_iff_eq];exact h31
    clear H31
    have H31:=hid_ h31
    clear h31
    obtain ⟨hlo0,hlo1⟩:=hlo
    have hTl:=hT.loc
    rcases (Kd.own_of_R hTl).2 with ⟨-,h0⟩ | ⟨gl,cap,cur,hvl,-⟩
    · dsimp only at h0;omega
    ·
     dsimp only at hvl hTl
     obtain ⟨zc,zs⟩:W5.cell? ⟨gl,x.f1.toNat,none⟩=some (.int .i64 (rdOf 0 s.loc x.f1))∧W5.frozen? ⟨gl,x.f1.toNat,none⟩=false:=by
      rw [hvl] at hTl
      exact Kd.R_celln (0:Int) hTl x.f1 hlo0 hlo1
     have hno:gl≠now.p:=by
      have:=Row.p_ne hT.loc hT.blk gl (by dsimp only;rw [hvl];rfl)
      exact this
     obtain ⟨z1,z2,z3⟩:=hT.zero (g:=gl) (by exact hvl) 1 x.f1.toNat first
     rw [hvl] at v1
     go_wp2_with (fail)
     go_region
     all_goals
      go_wp2_with (fail)
      go_meet
      exact ⟨⟨now.p,.slice A1 f c1,now.vl⟩,stk,s.loc.set x.f1.toNat first,by unfold putF;rw [if_pos rfl,if_pos H31.out],by omega,by simp,rfl,z1,fun j hj=>.inl hj,z2,fun q hq hn=>z3 q (fun e=>hn (.inr (.inr (by rw [e];dsimp only;rw [hvl];rfl))))⟩
   case rest =>
    clear v0 v1 z0 x0 x1 hg5
    obtain ⟨h',stk2,loc2,hp,hl2,hl3,hpe,hI,ho,hBw,hfw⟩:=hcut
    have HP2:=hid_ (HP.out.trans (by rw [hp]))
    clear HP hp
    have hX6:wc.heap[W.heap.size]?=some (.cells #[.int .i64 x.f0,.int .i64 x.f1,.int .i64 x.f2,.int .i64 x.f3] 66 (0,0)):=(hfw _ (aZd hX5) (own_ne_types hT hX5 (by decide) (by decide))).trans hX5
    have hK6:k.blk wc tv most:=(hfw _ (aZd hK5) (own_ne_types hT hK5 (by decide) (by decide))).trans hK5
    have hB6:Below base W wc:=hB5.trans hBw
    have FR:Hid (∀ j,j<W.heap.size→¬now.own j→wc.heap[j]?=W.heap[j]?):=hid_ (fun j hj hn=>(hfw j (Nat.lt_of_lt_of_le hj (Nat.le_trans lB lS)) (fun h=>hn (hTo j h))).trans (fB j hj hn))
    have OW:Hid (∀ j,h'.own j→now.own j∨W.heap.size≤j):=hid_ (fun j hj=>(ho j hj).elim (fun h=>.inl (hTo j h)) (fun h=>.inr (Nat.le_trans (Nat.le_trans lB lS) h)))
    clear hX5 hK5 hBw hfw ho hT fB hTo hB5
    obtain ⟨A7,c7,e7,-,-⟩:=Kd.R_reads hI.stk
    obtain ⟨w0,-,-,-,-⟩:=hI.cells
    rw [e7,hpe] at w0
    dsimp only at e7 w0
    obtain ⟨-,-,-,-,-,d5,-⟩:=Wk.cells hK6
    have y0:wc.cell? ⟨W.heap.size,0,none⟩=some (.int .i64 x.f0):=by simp [World.cell?,hX6]
    by_cases hov:k.dep<stk2.length
    ·
     have hE:=fun (w':World)=>StepEnd.err (W:=W) (w':=w') (base:=base) (now:=now) (HP2.out.trans (cZH hov))
     have HE:=hid_ hE
     clear hE
     have dov:decide ((stk2.length:Int) > k.dep)=true:=decide_eq_true hov
     go_wp2_with (fail)
     go_quiet (fail)
     go_wp2_with (fail)
     go_ret
     exact HE.out _ (aZb hB6 nq)
    ·
     have dov:decide ((stk2.length:Int) > k.dep)=false:=decide_eq_false hov
     by_cases hst:x.f0=36∧0<stk2.length
     ·
      have hE:=fun (w':World)=>StepEnd.err (W:=W) (w':=w') (base:=base) (now:=now) (HP2.out.trans (cZG hov hst.1 hst.2))
      have HE:=hid_ hE
      have d36:(x.f0 == 36)=true:=by rw [beq_iff_eq];exact hst.1
      have dle:decide ((stk2.length:Int) > 0)=true:=decide_eq_true (by have:=hst.2;omega)
      have dle2:decide (0<stk2.length)=true:=decide_eq_true hst.2
      have dle3:0<stk2.length:=hst.2
      clear hE hst hov
      go_wp2_with (fail)
      go_quiet (fail)
      go_wp2_with (fail)
      go_ret
      exact HE.out _ (aZb hB6 nq)
     ·
      have hE:=HP2.out.trans (dZ6 hov hst)
      have HE:=hid_ hE
      clear hE
      have fin:∀ (nq:Nat),StepEnd W base now res (.returned (.int .i64 0)) (wc.drewN nq):=fun nq=>by
       rw [HE.out]
       exact ⟨rfl,aZb hB6 nq,h',hpe,hI.keep (fun _ _ _=>rfl),OW.out,FR.out⟩
      have FI:=hid_ fin
      clear fin
      by_cases h36:x.f0=36
      ·
       have hz:stk2.length=0:=by
        by_cases h:stk2.length=0
        · exact h
        · exact absurd ⟨h36,by omega⟩ hst
       have d36:(x.f0 == 36)=true:=by rw [beq_iff_eq];exact h36
       have dle:decide ((stk2.length:Int) > 0)=false:=decide_eq_false (by omega)
       have dle2:decide (0<stk2.length)=false:=decide_eq_false (by omega)
       clear h36 hz hst hov
       go_wp2_with (fail)
       go_quiet (fail)
       go_wp2_with (fail)
       go_ret
       exact FI.out _
      ·
       have d36:(x.f0 == 36)=false:=by rw [beq_eq_false_iff_ne];exact h36
       clear h36 hst hov
       go_wp2_with (fail)
       go_quiet (fail)
       go_wp2_with (fail)
       go_ret
       exact FI.out _
theorem step_putB (k:Wk) (W:World) (tv:Value) (most:Int) (base:Nat) (h:k.blk W tv most) (hR:Kd.C k165 W k.ar 37 rowsL) (now:HS) (s:St) (hs:IsSt W base now s) (x:S66) (h1:1≤x.f0) (h2:x.f0≤36)
 (l1:s.stk.length≤4096) (l2:s.loc.length≤4096) (hA:x.f0=31∨x.f0=32→0≤x.f1∧x.f1<s.loc.length) (hb:base≤W.heap.size) (f:Nat) (hf:s.stk.length=f+(aZg rowsL x.f0).f1.size) (hfit:aZA s.stk f (aZg rowsL x.f0).f1 (aZM s.stk f (aZg rowsL x.f0).f1.size) (aZg rowsL x.f0).f1.size 0=true) (hpt:(aZg rowsL x.f0).f2=⟨#[]⟩) (h31:¬x.f0=31) :
 Calls Try.prog 95 #[.pointer (some ⟨k.g,0,none⟩),.pointer (some ⟨now.p,0,none⟩),.agg #[.int .i64 x.f0,.int .i64 x.f1,.int .i64 x.f2,.int .i64 x.f3]] W (StepEnd W base now (aZ2 k.dep (aZg rowsL x.f0) x s)):=by
 have hB1:Below W.heap.size W (W.alloc (.cells #[.int .i64 x.f0,.int .i64 x.f1,.int .i64 x.f2,.int .i64 x.f3] 66)):=aZa (Below.refl _ _) _
 have h':k.blk (W.alloc (.cells #[.int .i64 x.f0,.int .i64 x.f1,.int .i64 x.f2,.int .i64 x.f3] 66)) tv most:=(hB1.block _ (aZd h)).trans h
 have hR':=Kd.C_below hR hB1
 have hs':=hs.below hB1
 have hx:=heap_alloc_new W (.cells #[.int .i64 x.f0,.int .i64 x.f1,.int .i64 x.f2,.int .i64 x.f3] 66)
 obtain ⟨t0,t1,t2⟩:=bZI x.f0 h1 h2
 obtain ⟨ar,har,r0,r1,r2⟩:=cZZ hR' x.f0 (by omega) (by omega)
 have HL:=hid_ (gZb x.f0 h1 h2)
 have HA:=hid_ hA
 have HF:=hid_ hf
 have HFIT0:=hid_ hfit
 have HPT:=hid_ hpt
 clear hf hfit hpt
 have H31:=hid_ h31
 clear h31
 clear hA
 generalize aZg rowsL x.f0=r at *
 generalize hres:aZ2 k.dep r x s=res
 have HRES:=hid_ hres
 clear hres
 go_enter Try.func95,Try.ntmps95
 go_upto_region 1 with (fail)
 generalize (W.alloc (.cells #[.int .i64 x.f0,.int .i64 x.f1,.int .i64 x.f2,.int .i64 x.f3] 66))=W1 at *
 obtain ⟨-,-,-,-,-,-,-,q7,-⟩:=Wk.cells h'
 rw [har] at q7
 have y0:W1.cell? ⟨W.heap.size,0,none⟩=some (.int .i64 x.f0):=by simp [World.cell?,hx]
 have i0:0≤x.f0:=by omega
 have i1:x.f0<37:=by omega
 have n1:=World.new_ne W1 _ q7
 have n2:=World.new_ne W1 _ y0
 have n3:=World.new_ne W1 _ r0
 have n4:=World.new_ne W1 _ r1
 have n5:=World.new_ne W1 _ r2
 go_cut [7] (fun s7 wx=>∃ g:Nat,s7=.pointer (some ⟨g,0,none⟩)∧wx.heap[g]?=some (.cells #[.string r.f0,.string r.f1,.string r.f2] 165 (0,0))∧Below W1.heap.size W1 wx)
 case first =>
  go_region_held3 (fun w'=>w'.cell? ⟨k.g,7,none⟩=some (.slice (some ar) 37 k.cr)∧w'.cell? ⟨W.heap.size,0,none⟩=some (.int .i64 x.f0)∧w'.cell? (ar.add (x.f0.toNat*3))=some (.string r.f0)∧w'.cell? ⟨(ar.add (x.f0.toNat*3)).block,(ar.add (x.f0.toNat*3)).off+1,none⟩=some (.string r.f1)∧w'.cell? ⟨(ar.add (x.f0.toNat*3)).block,(ar.add (x.f0.toNat*3)).off+2,none⟩=some (.string r.f2)) (go_keep) (fail)
  all_goals (go_wp2_with (fail);go_meet;exact ⟨_,rfl,heap_alloc_new _ _,(aZa (Below.refl _ _) _).drew⟩)
 case rest =>
  obtain ⟨g,rfl,hg,hBx⟩:=hcut
  have hB2:Below W.heap.size W wc:=hB1.trans (hBx.mono hB1.size)
  have hX:wc.heap[W.heap.size]?=some (.cells #[.int .i64 x.f0,.int .i64 x.f1,.int .i64 x.f2,.int .i64 x.f3] 66 (0,0)):=(hBx.block _ (aZd hx)).trans hx
  have hK:=(hBx.block _ (aZd h')).trans h'
  have hS:=hs'.below hBx
  clear hBx h' hR' hs' hx r0 r1 r2 har q7 y0 n1 n2 n3 n4 n5 hB1 t0
  clear W1
  obtain ⟨A1,c1,e1,k1,r1⟩:=Kd.R_reads hS.stk
  obtain ⟨v0,v1,-,z0,-⟩:=hS.cells
  rw [e1] at v0
  have g1:wc.cell? ⟨g,1,none⟩=some (.string r.f1):=by simp [World.cell?,hg]
  have ew:IntKind.i64.wrap ((s.stk.length:Int) - (r.f1.size:Int))=(f:Int):=(IntWalk.i64_in _ ⟨by have:=HF.out;omega,by have:=HF.out;omega⟩).trans (by have:=HF.out;omega)
  go_wp2_with (fail)
  go_quiet (fail)
  clear ew
  have hB3:Below W.heap.size W (wc.drewN nq):=aZb hB2 nq
  have hX3:(wc.drewN nq).heap[W.heap.size]?=some (.cells #[.int .i64 x.f0,.int .i64 x.f1,.int .i64 x.f2,.int .i64 x.f3] 66 (0,0)):=hX
  have hg3:(wc.drewN nq).heap[g]?=some (.cells #[.string r.f0,.string r.f1,.string r.f2] 165 (0,0)):=hg
  have hK3:k.blk (wc.drewN nq) tv most:=hK
  have hS3:IsSt (wc.drewN nq) base now s:=hS.keep (fun _ _ _=>rfl)
  clear hB2 hX hg hK hS v0 v1 z0 g1 r1
  generalize wc.drewN nq=V at hB3 hX3 hg3 hK3 hS3 ⊢
  clear wc
  have g1:V.cell? ⟨g,1,none⟩=some (.string r.f1):=by simp [World.cell?,hg3]
  go_upto_block 0 with (fail)
  generalize hfs:aZM s.stk f r.f1.size=first
  have HFIT:Hid (aZA s.stk f r.f1 first r.f1.size 0=true):=hid_ (hfs▸HFIT0.out)
  clear HFIT0
  have HFS:=hid_ hfs
  clear hfs
  go_cut [9] (fun s9 wx=>s9=.int .i64 first∧aZA s.stk f r.f1 first r.f1.size 0=true∧Below V.heap.size V wx)
  case first =>
   go_wp2_with (fail)
   go_loopw [33,9] (fun i u wr=>∃ j:Nat,j≤r.f1.size∧i=.int .i64 j∧u=.int .i64 (if j=0 then 0 else first)∧Below V.heap.size V wr∧Hid (aZA s.stk f r.f1 first r.f1.size 0=aZA s.stk f r.f1 first (r.f1.size - j) j)) (fun i _ _=>r.f1.size - (intOf i).toNat)
   case atStart=>exact ⟨0,by omega,rfl,rfl,Below.refl _ _,hid_ rfl⟩
   case round =>
    obtain ⟨j,hj,rfl,rfl,hBr,HFT⟩:=hrel
    have hSr:=hS3.below hBr
    obtain ⟨v0,-,-,-,-⟩:=hSr.cells
    rw [e1] at v0
    have g1r:=(hBr.cell (aZG g1)).trans g1
    clear g1
    by_cases hlt:j<r.f1.size
    ·
     have hst:=hSr.stk
     rw [e1] at hst
     obtain ⟨A2,c2,e2,-,r2⟩:=Kd.R_reads hst
     cases e2
     obtain ⟨ad,rfl,cb⟩:=Kd.at_int r2 ((f+j:Nat):Int) (by omega) (by have:=HF.out;omega)
     rw [Int.toNat_natCast] at cb
     have b1:=ixs r.f1 (j:Int) (by omega) (by omega)
     have hd:r.f1.size - j=(r.f1.size - j - 1)+1:=by omega
     have HN:Hid (fitF (s.stk.getD (f+j) 0) (bt r.f1 j) first=false→res=.error 215):=hid_ (fun h=>HRES.out.symm.trans (bZU k.dep r x s f HF.out (by rw [HFS.out,HFT.out,hd];exact bZs h)))
     have HY:Hid (fitF (s.stk.getD (f+j) 0) (bt r.f1 j) first=true→aZA s.stk f r.f1 first (r.f1.size - j) j=aZA s.stk f r.f1 first (r.f1.size - (j+1)) (j+1)):=hid_ (fun h=>by rw [hd,cZm h,show r.f1.size - j - 1=r.f1.size - (j+1) by omega])
     have hb':=hb
     have HB : Hid (fitF (s.stk.getD (f + j) 0) (bt r.f1 j) first = true) := hid_ (by
      cases hbb:fitF (s.stk.getD (f+j) 0) (bt r.f1 j) first with
      | true=>rfl
      | false =>
       have h3:=HFIT.out
       rw [HFT.out,hd,bZs hbb] at h3
       cases h3)
     have hr:rd s.stk ((f+j:Nat):Int)=s.stk.getD (f+j) 0:=by unfold rd;rw [Int.toNat_natCast]
     rw [hr] at cb
     have hf0:j=0→first=s.stk.getD (f+j) 0:=fun h=>by subst h;rw [←HFS.out];unfold aZM;rw [if_pos (by omega)];rfl
     generalize s.stk.getD (f+j) 0=c at cb HN HY hf0 HB
     generalize bt r.f1 (j:Int)=l at b1 HN HY HB
     clear hr hd
     have q0:(0:Int)≤(f:Int):=by omega
     have q1:(f:Int)<(s.stk.length:Int):=by have:=HF.out;omega
     have q2:(0:Int)≤(f:Int)+(j:Int):=by omega
     have q3:(f:Int)+(j:Int)<(s.stk.length:Int):=by have:=HF.out;omega
     by_cases hj0:j=0
     ·
      subst hj0
      have hff:=hf0 rfl
      subst hff
      clear hf0
      rw [Nat.add_zero] at cb
      rw [show ((0:Nat):Int)=(0:Int) from rfl] at b1
      clear q2 q3
      have ewj:IntKind.i64.wrap (f:Int)=(f:Int):=IntWalk.i64_in _ ⟨by omega,by omega⟩
      rw [Nat.zero_add] at HY
      have hfc:=fun (W:World)=>bZP first l first W
      generalize hb:fitF first l first=b at hfc HN HY HB
      clear hb
      obtain rfl:b=true:=HB.out
      go_wp2_with (fail)
      go_region_held3 (fun w'=>w'.cell? ⟨now.p,0,none⟩=some (.slice (some ad) s.stk.length c1)∧w'.cell? (ad.add (f))=some (.int .i64 first)∧w'.cell? ⟨g,1,none⟩=some (.string r.f1)) (first|exact ⟨v0,cb,g1r⟩|exact dZo (by assumption) bel1) ((go_at_call 106;(with_reducible refine (hfc _).mono ?_);rintro e w1 ⟨rfl,bel1⟩))
      go_wp2_with (fail)
      go_roundw
      case rel=>exact ⟨1,by omega,by go_num,by simp,hBr.trans (aZo bel1 hBr.size),hid_ (HFT.out.trans (HY.out (by first|rfl|trivial)))⟩
      case measure=>simp [intOf];omega
     ·
      have dj:((j:Int) == 0)=false:=by rw [beq_eq_false_iff_ne];omega
      rw [if_neg hj0]
      clear hf0
      have q4:((f:Int)+(j:Int)).toNat=f+j:=by omega
      have ewj:IntKind.i64.wrap ((f:Int)+(j:Int))=(f:Int)+(j:Int):=IntWalk.i64_in _ ⟨by omega,by omega⟩
      have hfc:=fun (W:World)=>bZP c l first W
      generalize hb:fitF c l first=b at hfc HN HY HB
      clear hb
      obtain rfl:b=true:=HB.out
      go_wp2_with (fail)
      go_region_held3 (fun w'=>w'.cell? ⟨now.p,0,none⟩=some (.slice (some ad) s.stk.length c1)∧w'.cell? (ad.add (f+j))=some (.int .i64 c)∧w'.cell? ⟨g,1,none⟩=some (.string r.f1)) (first|exact ⟨v0,cb,g1r⟩|exact dZo (by assumption) bel1) ((go_at_call 106;(with_reducible refine (hfc _).mono ?_);rintro e w1 ⟨rfl,bel1⟩))
      go_wp2_with (fail)
      go_roundw
      case rel=>exact ⟨j+1,by omega,by go_num,by simp,hBr.trans (aZo bel1 hBr.size),hid_ (HFT.out.trans (HY.out (by first|rfl|trivial)))⟩
      case measure=>simp [intOf];omega
    ·
     have hje:j=r.f1.size:=by omega
     have hfin:aZA s.stk f r.f1 first r.f1.size 0=true:=by rw [HFT.out,hje,Nat.sub_self];rfl
     have hfv:(if j=0 then (0:Int) else first)=first:=by
      by_cases hj0:j=0
      · rw [if_pos hj0,←HFS.out];unfold aZM;rw [if_neg (by omega)]
      · rw [if_neg hj0]
     rw [hfv]
     clear hfv
     have hge:¬(j:Int)<(r.f1.size:Int):=by omega
     go_wp2_with (fail)
     go_meet
     exact ⟨rfl,hfin,hBr⟩
  case rest =>
   obtain ⟨rfl,hfit,hBv⟩:=hcut
   have hput:=HRES.out.symm.trans (cZw k.dep r x s f HF.out (by rw [HFS.out];exact hfit))
   rw [HFS.out] at hput
   have HP:=hid_ hput
   clear hput hfit HRES HFS
   have hf:f≤s.stk.length:=by have:=HF.out;omega
   have hS4:=hS3.below hBv
   have hX4:=(hBv.block _ (aZd hX3)).trans hX3
   have hg4:=(hBv.block _ (aZd hg3)).trans hg3
   have hK4:=(hBv.block _ (aZd hK3)).trans hK3
   have hB4:Below W.heap.size W wc:=hB3.trans (hBv.mono hB3.size)
   clear hBv hX3 hg3 hK3 hS3 hB3 g1
   clear V
   obtain ⟨v0,-,-,z0,-⟩:=hS4.cells
   rw [e1] at v0
   have hsl:=fun (w:World)=>dZf (A:=A1) k1 f hf w
   have hg42:wc.cell? ⟨g,2,none⟩=some (.string r.f2):=by simp [World.cell?,hg4]
   go_upto_block 2 with (fail)
   obtain ⟨hT,hTB,hTf,hTo⟩:=hS4.take e1 hf
   have hX5:=(hTf _ (aZR hX4 hS4.blk (by decide))).trans hX4
   have hg5:=(hTf _ (aZR hg4 hS4.blk (by decide))).trans hg4
   have hK5:k.blk (wc.setCell ⟨now.p,0,none⟩ (.slice A1 f c1)) tv most:=(hTf _ (aZR hK4 hS4.blk (by decide))).trans hK4
   have lS:=hTB.size
   have lB:=hB4.size
   have fB:∀ j,j<W.heap.size→¬now.own j→(wc.setCell ⟨now.p,0,none⟩ (.slice A1 f c1)).heap[j]?=W.heap[j]?:=fun j hj hn=>(hTf j (fun e=>hn (.inl e))).trans (hB4.block j hj)
   have hB5:Below base W (wc.setCell ⟨now.p,0,none⟩ (.slice A1 f c1)):=(hB4.mono hb).trans hTB
   clear hsl hg42 v0 z0 hS4 hX4 hg4 hK4 hTB hTf hB4
   generalize wc.setCell ⟨now.p,0,none⟩ (.slice A1 f c1)=W5 at *
   have hTn:=hT.stk
   have hl0:(s.stk.take f).length=f:=by rw [List.length_take];omega
   generalize s.stk.take f=stk at hT hl0 HP
   obtain ⟨v0,v1,-,z0,-⟩:=hT.cells
   dsimp only at v0 v1 z0
   clear hTn
   generalize hpt2:r.f2=pt at *
   clear hpt2
   have x0:W5.cell? ⟨W.heap.size,0,none⟩=some (.int .i64 x.f0):=by simp [World.cell?,hX5]
   have x1:W5.cell? ⟨W.heap.size,1,none⟩=some (.int .i64 x.f1):=by simp [World.cell?,hX5]
   go_cut [] (fun wx=>SwEnd W5 base ⟨now.p,.slice A1 f c1,now.vl⟩ pt x stk s.loc s.joined first wx)
   case first =>
    have hpt:=HPT.out
    have h31:=H31.out
    subst hpt
    have d31:(x.f0 == 31)=false:=by rw [beq_eq_false_iff_ne];exact h31
    go_wp2_with (fail)
    go_meet
    exact ⟨⟨now.p,.slice A1 f c1,now.vl⟩,stk,s.loc,by unfold putF;rw [if_pos rfl,if_neg h31],by omega,rfl,rfl,hT,fun j hj=>.inl hj,Below.refl _ _,fun _ _ _=>rfl⟩
   case rest =>
    clear v0 v1 z0 x0 x1 hg5
    obtain ⟨h',stk2,loc2,hp,hl2,hl3,hpe,hI,ho,hBw,hfw⟩:=hcut
    have HP2:=hid_ (HP.out.trans (by rw [hp]))
    clear HP hp
    have hX6:wc.heap[W.heap.size]?=some (.cells #[.int .i64 x.f0,.int .i64 x.f1,.int .i64 x.f2,.int .i64 x.f3] 66 (0,0)):=(hfw _ (aZd hX5) (own_ne_types hT hX5 (by decide) (by decide))).trans hX5
    have hK6:k.blk wc tv most:=(hfw _ (aZd hK5) (own_ne_types hT hK5 (by decide) (by decide))).trans hK5
    have hB6:Below base W wc:=hB5.trans hBw
    have FR:Hid (∀ j,j<W.heap.size→¬now.own j→wc.heap[j]?=W.heap[j]?):=hid_ (fun j hj hn=>(hfw j (Nat.lt_of_lt_of_le hj (Nat.le_trans lB lS)) (fun h=>hn (hTo j h))).trans (fB j hj hn))
    have OW:Hid (∀ j,h'.own j→now.own j∨W.heap.size≤j):=hid_ (fun j hj=>(ho j hj).elim (fun h=>.inl (hTo j h)) (fun h=>.inr (Nat.le_trans (Nat.le_trans lB lS) h)))
    clear hX5 hK5 hBw hfw ho hT fB hTo hB5
    obtain ⟨A7,c7,e7,-,-⟩:=Kd.R_reads hI.stk
    obtain ⟨w0,-,-,-,-⟩:=hI.cells
    rw [e7,hpe] at w0
    dsimp only at e7 w0
    obtain ⟨-,-,-,-,-,d5,-⟩:=Wk.cells hK6
    have y0:wc.cell? ⟨W.heap.size,0,none⟩=some (.int .i64 x.f0):=by simp [World.cell?,hX6]
    by_cases hov:k.dep<stk2.length
    ·
     have hE:=fun (w':World)=>StepEnd.err (W:=W) (w':=w') (base:=base) (now:=now) (HP2.out.trans (cZH hov))
     have HE:=hid_ hE
     clear hE
     have dov:decide ((stk2.length:Int) > k.dep)=true:=decide_eq_true hov
     go_wp2_with (fail)
     go_quiet (fail)
     go_wp2_with (fail)
     go_ret
     exact HE.out _ (aZb hB6 nq)
    ·
     have dov:decide ((stk2.length:Int) > k.dep)=false:=decide_eq_false hov
     by_cases hst:x.f0=36∧0<stk2.length
     ·
      have hE:=fun (w':World)=>StepEnd.err (W:=W) (w':=w') (base:=base) (now:=now) (HP2.out.trans (cZG hov hst.1 hst.2))
      have HE:=hid_ hE
      have d36:(x.f0 == 36)=true:=by rw [beq_iff_eq];exact hst.1
      have dle:decide ((stk2.length:Int) > 0)=true:=decide_eq_true (by have:=hst.2;omega)
      have dle2:decide (0<stk2.length)=true:=decide_eq_true hst.2
      have dle3:0<stk2.length:=hst.2
      clear hE hst hov
      go_wp2_with (fail)
      go_quiet (fail)
      go_wp2_with (fail)
      go_ret
      exact HE.out _ (aZb hB6 nq)
     ·
      have hE:=HP2.out.trans (dZ6 hov hst)
      have HE:=hid_ hE
      clear hE
      have fin:∀ (nq:Nat),StepEnd W base now res (.returned (.int .i64 0)) (wc.drewN nq):=fun nq=>by
       rw [HE.out]
       exact ⟨rfl,aZb hB6 nq,h',hpe,hI.keep (fun _ _ _=>rfl),OW.out,FR.out⟩
      have FI:=hid_ fin
      clear fin
      by_cases h36:x.f0=36
      ·
       have hz:stk2.length=0:=by
        by_cases h:stk2.length=0
        · exact h
        · exact absurd ⟨h36,by omega⟩ hst
       have d36:(x.f0 == 36)=true:=by rw [beq_iff_eq];exact h36
       have dle:decide ((stk2.length:Int) > 0)=false:=decide_eq_false (by omega)
       have dle2:decide (0<stk2.length)=false:=decide_eq_false (by omega)
       clear h36 hz hst hov
       go_wp2_with (fail)
       go_quiet (fail)
       go_wp2_with (fail)
       go_ret
       exact FI.out _
      ·
       have d36:(x.f0 == 36)=false:=by rw [beq_eq_false_iff_ne];exact h36
       clear h36 hst hov
       go_wp2_with (fail)
       go_quiet (fail)
       go_wp2_with (fail)
       go_ret
       exact FI.out _
theorem step_putC (k:Wk) (W:World) (tv:Value) (most:Int) (base:Nat) (h:k.blk W tv most) (hR:Kd.C k165 W k.ar 37 rowsL) (now:HS) (s:St) (hs:IsSt W base now s) (x:S66) (h1:1≤x.f0) (h2:x.f0≤36)
 (l1:s.stk.length≤4096) (l2:s.loc.length≤4096) (hA:x.f0=31∨x.f0=32→0≤x.f1∧x.f1<s.loc.length) (hb:base≤W.heap.size) (f:Nat) (hf:s.stk.length=f+(aZg rowsL x.f0).f1.size) (hfit:aZA s.stk f (aZg rowsL x.f0).f1 (aZM s.stk f (aZg rowsL x.f0).f1.size) (aZg rowsL x.f0).f1.size 0=true) (hpt:(aZg rowsL x.f0).f2=⟨#[61]⟩) :
 Calls Try.prog 95 #[.pointer (some ⟨k.g,0,none⟩),.pointer (some ⟨now.p,0,none⟩),.agg #[.int .i64 x.f0,.int .i64 x.f1,.int .i64 x.f2,.int .i64 x.f3]] W (StepEnd W base now (aZ2 k.dep (aZg rowsL x.f0) x s)):=by
 have hB1:Below W.heap.size W (W.alloc (.cells #[.int .i64 x.f0,.int .i64 x.f1,.int .i64 x.f2,.int .i64 x.f3] 66)):=aZa (Below.refl _ _) _
 have h':k.blk (W.alloc (.cells #[.int .i64 x.f0,.int .i64 x.f1,.int .i64 x.f2,.int .i64 x.f3] 66)) tv most:=(hB1.block _ (aZd h)).trans h
 have hR':=Kd.C_below hR hB1
 have hs':=hs.below hB1
 have hx:=heap_alloc_new W (.cells #[.int .i64 x.f0,.int .i64 x.f1,.int .i64 x.f2,.int .i64 x.f3] 66)
 obtain ⟨t0,t1,t2⟩:=bZI x.f0 h1 h2
 obtain ⟨ar,har,r0,r1,r2⟩:=cZZ hR' x.f0 (by omega) (by omega)
 have HL:=hid_ (gZb x.f0 h1 h2)
 have HA:=hid_ hA
 have HF:=hid_ hf
 have HFIT0:=hid_ hfit
 have HPT:=hid_ hpt
 clear hf hfit hpt
 clear hA
 generalize aZg rowsL x.f0=r at *
 generalize hres:aZ2 k.dep r x s=res
 have HRES:=hid_ hres
 clear hres
 go_enter Try.func95,Try.ntmps95
 go_upto_region 1 with (fail)
 generalize (W.alloc (.cells #[.int .i64 x.f0,.int .i64 x.f1,.int .i64 x.f2,.int .i64 x.f3] 66))=W1 at *
 obtain ⟨-,-,-,-,-,-,-,q7,-⟩:=Wk.cells h'
 rw [har] at q7
 have y0:W1.cell? ⟨W.heap.size,0,none⟩=some (.int .i64 x.f0):=by simp [World.cell?,hx]
 have i0:0≤x.f0:=by omega
 have i1:x.f0<37:=by omega
 have n1:=World.new_ne W1 _ q7
 have n2:=World.new_ne W1 _ y0
 have n3:=World.new_ne W1 _ r0
 have n4:=World.new_ne W1 _ r1
 have n5:=World.new_ne W1 _ r2
 go_cut [7] (fun s7 wx=>∃ g:Nat,s7=.pointer (some ⟨g,0,none⟩)∧wx.heap[g]?=some (.cells #[.string r.f0,.string r.f1,.string r.f2] 165 (0,0))∧Below W1.heap.size W1 wx)
 case first =>
  go_region_held3 (fun w'=>w'.cell? ⟨k.g,7,none⟩=some (.slice (some ar) 37 k.cr)∧w'.cell? ⟨W.heap.size,0,none⟩=some (.int .i64 x.f0)∧w'.cell? (ar.add (x.f0.toNat*3))=some (.string r.f0)∧w'.cell? ⟨(ar.add (x.f0.toNat*3)).block,(ar.add (x.f0.toNat*3)).off+1,none⟩=some (.string r.f1)∧w'.cell? ⟨(ar.add (x.f0.toNat*3)).block,(ar.add (x.f0.toNat*3)).off+2,none⟩=some (.string r.f2)) (go_keep) (fail)
  all_goals (go_wp2_with (fail);go_meet;exact ⟨_,rfl,heap_alloc_new _ _,(aZa (Below.refl _ _) _).drew⟩)
 case rest =>
  obtain ⟨g,rfl,hg,hBx⟩:=hcut
  have hB2:Below W.heap.size W wc:=hB1.trans (hBx.mono hB1.size)
  have hX:wc.heap[W.heap.size]?=some (.cells #[.int .i64 x.f0,.int .i64 x.f1,.int .i64 x.f2,.int .i64 x.f3] 66 (0,0)):=(hBx.block _ (aZd hx)).trans hx
  have hK:=(hBx.block _ (aZd h')).trans h'
  have hS:=hs'.below hBx
  clear hBx h' hR' hs' hx r0 r1 r2 har q7 y0 n1 n2 n3 n4 n5 hB1 t0
  clear W1
  obtain ⟨A1,c1,e1,k1,r1⟩:=Kd.R_reads hS.stk
  obtain ⟨v0,v1,-,z0,-⟩:=hS.cells
  rw [e1] at v0
  have g1:wc.cell? ⟨g,1,none⟩=some (.string r.f1):=by simp [World.cell?,hg]
  have ew:IntKind.i64.wrap ((s.stk.length:Int) - (r.f1.size:Int))=(f:Int):=(IntWalk.i64_in _ ⟨by have:=HF.out;omega,by have:=HF.out;omega⟩).trans (by have:=HF.out;omega)
  go_wp2_with (fail)
  go_quiet (fail)
  clear ew
  have hB3:Below W.heap.size W (wc.drewN nq):=aZb hB2 nq
  have hX3:(wc.drewN nq).heap[W.heap.size]?=some (.cells #[.int .i64 x.f0,.int .i64 x.f1,.int .i64 x.f2,.int .i64 x.f3] 66 (0,0)):=hX
  have hg3:(wc.drewN nq).heap[g]?=some (.cells #[.string r.f0,.string r.f1,.string r.f2] 165 (0,0)):=hg
  have hK3:k.blk (wc.drewN nq) tv most:=hK
  have hS3:IsSt (wc.drewN nq) base now s:=hS.keep (fun _ _ _=>rfl)
  clear hB2 hX hg hK hS v0 v1 z0 g1 r1
  generalize wc.drewN nq=V at hB3 hX3 hg3 hK3 hS3 ⊢
  clear wc
  have g1:V.cell? ⟨g,1,none⟩=some (.string r.f1):=by simp [World.cell?,hg3]
  go_upto_block 0 with (fail)
  generalize hfs:aZM s.stk f r.f1.size=first
  have HFIT:Hid (aZA s.stk f r.f1 first r.f1.size 0=true):=hid_ (hfs▸HFIT0.out)
  clear HFIT0
  have HFS:=hid_ hfs
  clear hfs
  go_cut [9] (fun s9 wx=>s9=.int .i64 first∧aZA s.stk f r.f1 first r.f1.size 0=true∧Below V.heap.size V wx)
  case first =>
   go_wp2_with (fail)
   go_loopw [33,9] (fun i u wr=>∃ j:Nat,j≤r.f1.size∧i=.int .i64 j∧u=.int .i64 (if j=0 then 0 else first)∧Below V.heap.size V wr∧Hid (aZA s.stk f r.f1 first r.f1.size 0=aZA s.stk f r.f1 first (r.f1.size - j) j)) (fun i _ _=>r.f1.size - (intOf i).toNat)
   case atStart=>exact ⟨0,by omega,rfl,rfl,Below.refl _ _,hid_ rfl⟩
   case round =>
    obtain ⟨j,hj,rfl,rfl,hBr,HFT⟩:=hrel
    have hSr:=hS3.below hBr
    obtain ⟨v0,-,-,-,-⟩:=hSr.cells
    rw [e1] at v0
    have g1r:=(hBr.cell (aZG g1)).trans g1
    clear g1
    by_cases hlt:j<r.f1.size
    ·
     have hst:=hSr.stk
     rw [e1] at hst
     obtain ⟨A2,c2,e2,-,r2⟩:=Kd.R_reads hst
     cases e2
     obtain ⟨ad,rfl,cb⟩:=Kd.at_int r2 ((f+j:Nat):Int) (by omega) (by have:=HF.out;omega)
     rw [Int.toNat_natCast] at cb
     have b1:=ixs r.f1 (j:Int) (by omega) (by omega)
     have hd:r.f1.size - j=(r.f1.size - j - 1)+1:=by omega
     have HN:Hid (fitF (s.stk.getD (f+j) 0) (bt r.f1 j) first=false→res=.error 215):=hid_ (fun h=>HRES.out.symm.trans (bZU k.dep r x s f HF.out (by rw [HFS.out,HFT.out,hd];exact bZs h)))
     have HY:Hid (fitF (s.stk.getD (f+j) 0) (bt r.f1 j) first=true→aZA s.stk f r.f1 first (r.f1.size - j) j=aZA s.stk f r.f1 first (r.f1.size - (j+1)) (j+1)):=hid_ (fun h=>by rw [hd,cZm h,show r.f1.size - j - 1=r.f1.size - (j+1) by omega])
     have hb':=hb
     have HB : Hid (fitF (s.stk.getD (f + j) 0) (bt r.f1 j) first = true) := hid_ (by
      cases hbb:fitF (s.stk.getD (f+j) 0) (bt r.f1 j) first with
      | true=>rfl
      | false =>
       have h3:=HFIT.out
       rw [HFT.out,hd,bZs hbb] at h3
       cases h3)
     have hr:rd s.stk ((f+j:Nat):Int)=s.stk.getD (f+j) 0:=by unfold rd;rw [Int.toNat_natCast]
     rw [hr] at cb
     have hf0:j=0→first=s.stk.getD (f+j) 0:=fun h=>by subst h;rw [←HFS.out];unfold aZM;rw [if_pos (by omega)];rfl
     generalize s.stk.getD (f+j) 0=c at cb HN HY hf0 HB
     generalize bt r.f1 (j:Int)=l at b1 HN HY HB
     clear hr hd
     have q0:(0:Int)≤(f:Int):=by omega
     have q1:(f:Int)<(s.stk.length:Int):=by have:=HF.out;omega
     have q2:(0:Int)≤(f:Int)+(j:Int):=by omega
     have q3:(f:Int)+(j:Int)<(s.stk.length:Int):=by have:=HF.out;omega
     by_cases hj0:j=0
     ·
      subst hj0
      have hff:=hf0 rfl
      subst hff
      clear hf0
      rw [Nat.add_zero] at cb
      rw [show ((0:Nat):Int)=(0:Int) from rfl] at b1
      clear q2 q3
      have ewj:IntKind.i64.wrap (f:Int)=(f:Int):=IntWalk.i64_in _ ⟨by omega,by omega⟩
      rw [Nat.zero_add] at HY
      have hfc:=fun (W:World)=>bZP first l first W
      generalize hb:fitF first l first=b at hfc HN HY HB
      clear hb
      obtain rfl:b=true:=HB.out
      go_wp2_with (fail)
      go_region_held3 (fun w'=>w'.cell? ⟨now.p,0,none⟩=some (.slice (some ad) s.stk.length c1)∧w'.cell? (ad.add (f))=some (.int .i64 first)∧w'.cell? ⟨g,1,none⟩=some (.string r.f1)) (first|exact ⟨v0,cb,g1r⟩|exact dZo (by assumption) bel1) ((go_at_call 106;(with_reducible refine (hfc _).mono ?_);rintro e w1 ⟨rfl,bel1⟩))
      go_wp2_with (fail)
      go_roundw
      case rel=>exact ⟨1,by omega,by go_num,by simp,hBr.trans (aZo bel1 hBr.size),hid_ (HFT.out.trans (HY.out (by first|rfl|trivial)))⟩
      case measure=>simp [intOf];omega
     ·
      have dj:((j:Int) == 0)=false:=by rw [beq_eq_false_iff_ne];omega
      rw [if_neg hj0]
      clear hf0
      have q4:((f:Int)+(j:Int)).toNat=f+j:=by omega
      have ewj:IntKind.i64.wrap ((f:Int)+(j:Int))=(f:Int)+(j:Int):=IntWalk.i64_in _ ⟨by omega,by omega⟩
      have hfc:=fun (W:World)=>bZP c l first W
      generalize hb:fitF c l first=b at hfc HN HY HB
      clear hb
      obtain rfl:b=true:=HB.out
      go_wp2_with (fail)
      go_region_held3 (fun w'=>w'.cell? ⟨now.p,0,none⟩=some (.slice (some ad) s.stk.length c1)∧w'.cell? (ad.add (f+j))=some (.int .i64 c)∧w'.cell? ⟨g,1,none⟩=some (.string r.f1)) (first|exact ⟨v0,cb,g1r⟩|exact dZo (by assumption) bel1) ((go_at_call 106;(with_reducible refine (hfc _).mono ?_);rintro e w1 ⟨rfl,bel1⟩))
      go_wp2_with (fail)
      go_roundw
      case rel=>exact ⟨j+1,by omega,by go_num,by simp,hBr.trans (aZo bel1 hBr.size),hid_ (HFT.out.trans (HY.out (by first|rfl|trivial)))⟩
      case measure=>simp [intOf];omega
    ·
     have hje:j=r.f1.size:=by omega
     have hfin:aZA s.stk f r.f1 first r.f1.size 0=true:=by rw [HFT.out,hje,Nat.sub_self];rfl
     have hfv:(if j=0 then (0:Int) else first)=first:=by
      by_cases hj0:j=0
      · rw [if_pos hj0,←HFS.out];unfold aZM;rw [if_neg (by omega)]
      · rw [if_neg hj0]
     rw [hfv]
     clear hfv
     have hge:¬(j:Int)<(r.f1.size:Int):=by omega
     go_wp2_with (fail)
     go_meet
     exact ⟨rfl,hfin,hBr⟩
  case rest =>
   obtain ⟨rfl,hfit,hBv⟩:=hcut
   have hput:=HRES.out.symm.trans (cZw k.dep r x s f HF.out (by rw [HFS.out];exact hfit))
   rw [HFS.out] at hput
   have HP:=hid_ hput
   clear hput hfit HRES HFS
   have hf:f≤s.stk.length:=by have:=HF.out;omega
   have hS4:=hS3.below hBv
   have hX4:=(hBv.block _ (aZd hX3)).trans hX3
   have hg4:=(hBv.block _ (aZd hg3)).trans hg3
   have hK4:=(hBv.block _ (aZd hK3)).trans hK3
   have hB4:Below W.heap.size W wc:=hB3.trans (hBv.mono hB3.size)
   clear hBv hX3 hg3 hK3 hS3 hB3 g1
   clear V
   obtain ⟨v0,-,-,z0,-⟩:=hS4.cells
   rw [e1] at v0
   have hsl:=fun (w:World)=>dZf (A:=A1) k1 f hf w
   have hg42:wc.cell? ⟨g,2,none⟩=some (.string r.f2):=by simp [World.cell?,hg4]
   go_upto_block 2 with (fail)
   obtain ⟨hT,hTB,hTf,hTo⟩:=hS4.take e1 hf
   have hX5:=(hTf _ (aZR hX4 hS4.blk (by decide))).trans hX4
   have hg5:=(hTf _ (aZR hg4 hS4.blk (by decide))).trans hg4
   have hK5:k.blk (wc.setCell ⟨now.p,0,none⟩ (.slice A1 f c1)) tv most:=(hTf _ (aZR hK4 hS4.blk (by decide))).trans hK4
   have lS:=hTB.size
   have lB:=hB4.size
   have fB:∀ j,j<W.heap.size→¬now.own j→(wc.setCell ⟨now.p,0,none⟩ (.slice A1 f c1)).heap[j]?=W.heap[j]?:=fun j hj hn=>(hTf j (fun e=>hn (.inl e))).trans (hB4.block j hj)
   have hB5:Below base W (wc.setCell ⟨now.p,0,none⟩ (.slice A1 f c1)):=(hB4.mono hb).trans hTB
   clear hsl hg42 v0 z0 hS4 hX4 hg4 hK4 hTB hTf hB4
   generalize wc.setCell ⟨now.p,0,none⟩ (.slice A1 f c1)=W5 at *
   have hTn:=hT.stk
   have hl0:(s.stk.take f).length=f:=by rw [List.length_take];omega
   generalize s.stk.take f=stk at hT hl0 HP
   obtain ⟨v0,v1,-,z0,-⟩:=hT.cells
   dsimp only at v0 v1 z0
   clear hTn
   generalize hpt2:r.f2=pt at *
   clear hpt2
   have x0:W5.cell? ⟨W.heap.size,0,none⟩=some (.int .i64 x.f0):=by simp [World.cell?,hX5]
   have x1:W5.cell? ⟨W.heap.size,1,none⟩=some (.int .i64 x.f1):=by simp [World.cell?,hX5]
   go_cut [] (fun wx=>SwEnd W5 base ⟨now.p,.slice A1 f c1,now.vl⟩ pt x stk s.loc s.joined first wx)
   case first =>
    have hpt:=HPT.out
    subst hpt
    go_wp2_with ((with_reducible refine aZh (b:=.append) (xs:=#[.tmp 106,.tmp 108]) rfl ?_);at_builtin;refine Kd.R_append (Kd.int .i64) (w0:=W5) base rfl (.tmp 106) (.tmp 108) 51 73 (.int .i64 0) 8 rfl Try.underlying51 info73 rfl (by decide) (by omega) (.slice A1 f c1) stk first [.int .i64 first] (fun k=>(Value.slice A1 f c1).ownBlock=some k∨W5.heap.size≤k) (fun _=>False) rfl rfl rfl (fun _ hk=>hk.elim) (fun _ hk=>.inr hk) (Kd.R_mono hT.stk (fun _ hk=>.inl hk)) (Below.refl _ _) (Nat.le_trans hb (Nat.le_trans lB lS)) (by omega) ?_;intro vv w1 hrow1 hb1 hg1 hv1;obtain ⟨A2,c2,rfl⟩:=Kd.R_slice hrow1;have pc:=dZ0 hT hg1;dsimp only at pc;obtain ⟨u0,u1⟩:=pc)
    go_meet
    have hend:=SwEnd.push (x:=x) hT (show putF ⟨#[61]⟩ x stk s.loc first=.ok (stk++[first],s.loc) by unfold putF;rw [if_neg (show ¬((⟨#[61]⟩:ByteArray)=⟨#[]⟩) by decide),if_pos rfl]) hrow1 hg1 hv1 0
    rw [show (stk++[first]).length=f+1 by rw [List.length_append,hl0];rfl] at hend
    exact hend
   case rest =>
    clear v0 v1 z0 x0 x1 hg5
    obtain ⟨h',stk2,loc2,hp,hl2,hl3,hpe,hI,ho,hBw,hfw⟩:=hcut
    have HP2:=hid_ (HP.out.trans (by rw [hp]))
    clear HP hp
    have hX6:wc.heap[W.heap.size]?=some (.cells #[.int .i64 x.f0,.int .i64 x.f1,.int .i64 x.f2,.int .i64 x.f3] 66 (0,0)):=(hfw _ (aZd hX5) (own_ne_types hT hX5 (by decide) (by decide))).trans hX5
    have hK6:k.blk wc tv most:=(hfw _ (aZd hK5) (own_ne_types hT hK5 (by decide) (by decide))).trans hK5
    have hB6:Below base W wc:=hB5.trans hBw
    have FR:Hid (∀ j,j<W.heap.size→¬now.own j→wc.heap[j]?=W.heap[j]?):=hid_ (fun j hj hn=>(hfw j (Nat.lt_of_lt_of_le hj (Nat.le_trans lB lS)) (fun h=>hn (hTo j h))).trans (fB j hj hn))
    have OW:Hid (∀ j,h'.own j→now.own j∨W.heap.size≤j):=hid_ (fun j hj=>(ho j hj).elim (fun h=>.inl (hTo j h)) (fun h=>.inr (Nat.le_trans (Nat.le_trans lB lS) h)))
    clear hX5 hK5 hBw hfw ho hT fB hTo hB5
    obtain ⟨A7,c7,e7,-,-⟩:=Kd.R_reads hI.stk
    obtain ⟨w0,-,-,-,-⟩:=hI.cells
    rw [e7,hpe] at w0
    dsimp only at e7 w0
    obtain ⟨-,-,-,-,-,d5,-⟩:=Wk.cells hK6
    have y0:wc.cell? ⟨W.heap.size,0,none⟩=some (.int .i64 x.f0):=by simp [World.cell?,hX6]
    by_cases hov:k.dep<stk2.length
    ·
     have hE:=fun (w':World)=>StepEnd.err (W:=W) (w':=w') (base:=base) (now:=now) (HP2.out.trans (cZH hov))
     have HE:=hid_ hE
     clear hE
     have dov:decide ((stk2.length:Int) > k.dep)=true:=decide_eq_true hov
     go_wp2_with (fail)
     go_quiet (fail)
     go_wp2_with (fail)
     go_ret
     exact HE.out _ (aZb hB6 nq)
    ·
     have dov:decide ((stk2.length:Int) > k.dep)=false:=decide_eq_false hov
     by_cases hst:x.f0=36∧0<stk2.length
     ·
      have hE:=fun (w':World)=>StepEnd.err (W:=W) (w':=w') (base:=base) (now:=now) (HP2.out.trans (cZG hov hst.1 hst.2))
      have HE:=hid_ hE
      have d36:(x.f0 == 36)=true:=by rw [beq_iff_eq];exact hst.1
      have dle:decide ((stk2.length:Int) > 0)=true:=decide_eq_true (by have:=hst.2;omega)
      have dle2:decide (0<stk2.length)=true:=decide_eq_true hst.2
      have dle3:0<stk2.length:=hst.2
      clear hE hst hov
      go_wp2_with (fail)
      go_quiet (fail)
      go_wp2_with (fail)
      go_ret
      exact HE.out _ (aZb hB6 nq)
     ·
      have hE:=HP2.out.trans (dZ6 hov hst)
      have HE:=hid_ hE
      clear hE
      have fin:∀ (nq:Nat),StepEnd W base now res (.returned (.int .i64 0)) (wc.drewN nq):=fun nq=>by
       rw [HE.out]
       exact ⟨rfl,aZb hB6 nq,h',hpe,hI.keep (fun _ _ _=>rfl),OW.out,FR.out⟩
      have FI:=hid_ fin
      clear fin
      by_cases h36:x.f0=36
      ·
       have hz:stk2.length=0:=by
        by_cases h:stk2.length=0
        · exact h
        · exact absurd ⟨h36,by omega⟩ hst
       have d36:(x.f0 == 36)=true:=by rw [beq_iff_eq];exact h36
       have dle:decide ((stk2.length:Int) > 0)=false:=decide_eq_false (by omega)
       have dle2:decide (0<stk2.length)=false:=decide_eq_false (by omega)
       clear h36 hz hst hov
       go_wp2_with (fail)
       go_quiet (fail)
       go_wp2_with (fail)
       go_ret
       exact FI.out _
      ·
       have d36:(x.f0 == 36)=false:=by rw [beq_eq_false_iff_ne];exact h36
       clear h36 hst hov
       go_wp2_with (fail)
       go_quiet (fail)
       go_wp2_with (fail)
       go_ret
       exact FI.out _
theorem step_putD (k:Wk) (W:World) (tv:Value) (most:Int) (base:Nat) (h:k.blk W tv most) (hR:Kd.C k165 W k.ar 37 rowsL) (now:HS) (s:St) (hs:IsSt W base now s) (x:S66) (h1:1≤x.f0) (h2:x.f0≤36)
 (l1:s.stk.length≤4096) (l2:s.loc.length≤4096) (hA:x.f0=31∨x.f0=32→0≤x.f1∧x.f1<s.loc.length) (hb:base≤W.heap.size) (f:Nat) (hf:s.stk.length=f+(aZg rowsL x.f0).f1.size) (hfit:aZA s.stk f (aZg rowsL x.f0).f1 (aZM s.stk f (aZg rowsL x.f0).f1.size) (aZg rowsL x.f0).f1.size 0=true) (hpt:(aZg rowsL x.f0).f2=⟨#[76]⟩) (hz:s.loc.getD x.f1.toNat 0=0) :
 Calls Try.prog 95 #[.pointer (some ⟨k.g,0,none⟩),.pointer (some ⟨now.p,0,none⟩),.agg #[.int .i64 x.f0,.int .i64 x.f1,.int .i64 x.f2,.int .i64 x.f3]] W (StepEnd W base now (aZ2 k.dep (aZg rowsL x.f0) x s)):=by
 have hB1:Below W.heap.size W (W.alloc (.cells #[.int .i64 x.f0,.int .i64 x.f1,.int .i64 x.f2,.int .i64 x.f3] 66)):=aZa (Below.refl _ _) _
 have h':k.blk (W.alloc (.cells #[.int .i64 x.f0,.int .i64 x.f1,.int .i64 x.f2,.int .i64 x.f3] 66)) tv most:=(hB1.block _ (aZd h)).trans h
 have hR':=Kd.C_below hR hB1
 have hs':=hs.below hB1
 have hx:=heap_alloc_new W (.cells #[.int .i64 x.f0,.int .i64 x.f1,.int .i64 x.f2,.int .i64 x.f3] 66)
 obtain ⟨t0,t1,t2⟩:=bZI x.f0 h1 h2
 obtain ⟨ar,har,r0,r1,r2⟩:=cZZ hR' x.f0 (by omega) (by omega)
 have HL:=hid_ (gZb x.f0 h1 h2)
 have HA:=hid_ hA
 have HF:=hid_ hf
 have HFIT0:=hid_ hfit
 have HPT:=hid_ hpt
 clear hf hfit hpt
 have HZ:=hid_ hz
 clear hz
 clear hA
 generalize aZg rowsL x.f0=r at *
 generalize hres:aZ2 k.dep r x s=res
 have HRES:=hid_ hres
 clear hres
 go_enter Try.func95,Try.ntmps95
 go_upto_region 1 with (fail)
 generalize (W.alloc (.cells #[.int .i64 x.f0,.int .i64 x.f1,.int .i64 x.f2,.int .i64 x.f3] 66))=W1 at *
 obtain ⟨-,-,-,-,-,-,-,q7,-⟩:=Wk.cells h'
 rw [har] at q7
 have y0:W1.cell? ⟨W.heap.size,0,none⟩=some (.int .i64 x.f0):=by simp [World.cell?,hx]
 have i0:0≤x.f0:=by omega
 have i1:x.f0<37:=by omega
 have n1:=World.new_ne W1 _ q7
 have n2:=World.new_ne W1 _ y0
 have n3:=World.new_ne W1 _ r0
 have n4:=World.new_ne W1 _ r1
 have n5:=World.new_ne W1 _ r2
 go_cut [7] (fun s7 wx=>∃ g:Nat,s7=.pointer (some ⟨g,0,none⟩)∧wx.heap[g]?=some (.cells #[.string r.f0,.string r.f1,.string r.f2] 165 (0,0))∧Below W1.heap.size W1 wx)
 case first =>
  go_region_held3 (fun w'=>w'.cell? ⟨k.g,7,none⟩=some (.slice (some ar) 37 k.cr)∧w'.cell? ⟨W.heap.size,0,none⟩=some (.int .i64 x.f0)∧w'.cell? (ar.add (x.f0.toNat*3))=some (.string r.f0)∧w'.cell? ⟨(ar.add (x.f0.toNat*3)).block,(ar.add (x.f0.toNat*3)).off+1,none⟩=some (.string r.f1)∧w'.cell? ⟨(ar.add (x.f0.toNat*3)).block,(ar.add (x.f0.toNat*3)).off+2,none⟩=some (.string r.f2)) (go_keep) (fail)
  all_goals (go_wp2_with (fail);go_meet;exact ⟨_,rfl,heap_alloc_new _ _,(aZa (Below.refl _ _) _).drew⟩)
 case rest =>
  obtain ⟨g,rfl,hg,hBx⟩:=hcut
  have hB2:Below W.heap.size W wc:=hB1.trans (hBx.mono hB1.size)
  have hX:wc.heap[W.heap.size]?=some (.cells #[.int .i64 x.f0,.int .i64 x.f1,.int .i64 x.f2,.int .i64 x.f3] 66 (0,0)):=(hBx.block _ (aZd hx)).trans hx
  have hK:=(hBx.block _ (aZd h')).trans h'
  have hS:=hs'.below hBx
  clear hBx h' hR' hs' hx r0 r1 r2 har q7 y0 n1 n2 n3 n4 n5 hB1 t0
  clear W1
  obtain ⟨A1,c1,e1,k1,r1⟩:=Kd.R_reads hS.stk
  obtain ⟨v0,v1,-,z0,-⟩:=hS.cells
  rw [e1] at v0
  have g1:wc.cell? ⟨g,1,none⟩=some (.string r.f1):=by simp [World.cell?,hg]
  have ew:IntKind.i64.wrap ((s.stk.length:Int) - (r.f1.size:Int))=(f:Int):=(IntWalk.i64_in _ ⟨by have:=HF.out;omega,by have:=HF.out;omega⟩).trans (by have:=HF.out;omega)
  go_wp2_with (fail)
  go_quiet (fail)
  clear ew
  have hB3:Below W.heap.size W (wc.drewN nq):=aZb hB2 nq
  have hX3:(wc.drewN nq).heap[W.heap.size]?=some (.cells #[.int .i64 x.f0,.int .i64 x.f1,.int .i64 x.f2,.int .i64 x.f3] 66 (0,0)):=hX
  have hg3:(wc.drewN nq).heap[g]?=some (.cells #[.string r.f0,.string r.f1,.string r.f2] 165 (0,0)):=hg
  have hK3:k.blk (wc.drewN nq) tv most:=hK
  have hS3:IsSt (wc.drewN nq) base now s:=hS.keep (fun _ _ _=>rfl)
  clear hB2 hX hg hK hS v0 v1 z0 g1 r1
  generalize wc.drewN nq=V at hB3 hX3 hg3 hK3 hS3 ⊢
  clear wc
  have g1:V.cell? ⟨g,1,none⟩=some (.string r.f1):=by simp [World.cell?,hg3]
  go_upto_block 0 with (fail)
  generalize hfs:aZM s.stk f r.f1.size=first
  have HFIT:Hid (aZA s.stk f r.f1 first r.f1.size 0=true):=hid_ (hfs▸HFIT0.out)
  clear HFIT0
  have HFS:=hid_ hfs
  clear hfs
  go_cut [9] (fun s9 wx=>s9=.int .i64 first∧aZA s.stk f r.f1 first r.f1.size 0=true∧Below V.heap.size V wx)
  case first =>
   go_wp2_with (fail)
   go_loopw [33,9] (fun i u wr=>∃ j:Nat,j≤r.f1.size∧i=.int .i64 j∧u=.int .i64 (if j=0 then 0 else first)∧Below V.heap.size V wr∧Hid (aZA s.stk f r.f1 first r.f1.size 0=aZA s.stk f r.f1 first (r.f1.size - j) j)) (fun i _ _=>r.f1.size - (intOf i).toNat)
   case atStart=>exact ⟨0,by omega,rfl,rfl,Below.refl _ _,hid_ rfl⟩
   case round =>
    obtain ⟨j,hj,rfl,rfl,hBr,HFT⟩:=hrel
    have hSr:=hS3.below hBr
    obtain ⟨v0,-,-,-,-⟩:=hSr.cells
    rw [e1] at v0
    have g1r:=(hBr.cell (aZG g1)).trans g1
    clear g1
    by_cases hlt:j<r.f1.size
    ·
     have hst:=hSr.stk
     rw [e1] at hst
     obtain ⟨A2,c2,e2,-,r2⟩:=Kd.R_reads hst
     cases e2
     obtain ⟨ad,rfl,cb⟩:=Kd.at_int r2 ((f+j:Nat):Int) (by omega) (by have:=HF.out;omega)
     rw [Int.toNat_natCast] at cb
     have b1:=ixs r.f1 (j:Int) (by omega) (by omega)
     have hd:r.f1.size - j=(r.f1.size - j - 1)+1:=by omega
     have HN:Hid (fitF (s.stk.getD (f+j) 0) (bt r.f1 j) first=false→res=.error 215):=hid_ (fun h=>HRES.out.symm.trans (bZU k.dep r x s f HF.out (by rw [HFS.out,HFT.out,hd];exact bZs h)))
     have HY:Hid (fitF (s.stk.getD (f+j) 0) (bt r.f1 j) first=true→aZA s.stk f r.f1 first (r.f1.size - j) j=aZA s.stk f r.f1 first (r.f1.size - (j+1)) (j+1)):=hid_ (fun h=>by rw [hd,cZm h,show r.f1.size - j - 1=r.f1.size - (j+1) by omega])
     have hb':=hb
     have HB : Hid (fitF (s.stk.getD (f + j) 0) (bt r.f1 j) first = true) := hid_ (by
      cases hbb:fitF (s.stk.getD (f+j) 0) (bt r.f1 j) first with
      | true=>rfl
      | false =>
       have h3:=HFIT.out
       rw [HFT.out,hd,bZs hbb] at h3
       cases h3)
     have hr:rd s.stk ((f+j:Nat):Int)=s.stk.getD (f+j) 0:=by unfold rd;rw [Int.toNat_natCast]
     rw [hr] at cb
     have hf0:j=0→first=s.stk.getD (f+j) 0:=fun h=>by subst h;rw [←HFS.out];unfold aZM;rw [if_pos (by omega)];rfl
     generalize s.stk.getD (f+j) 0=c at cb HN HY hf0 HB
     generalize bt r.f1 (j:Int)=l at b1 HN HY HB
     clear hr hd
     have q0:(0:Int)≤(f:Int):=by omega
     have q1:(f:Int)<(s.stk.length:Int):=by have:=HF.out;omega
     have q2:(0:Int)≤(f:Int)+(j:Int):=by omega
     have q3:(f:Int)+(j:Int)<(s.stk.length:Int):=by have:=HF.out;omega
     by_cases hj0:j=0
     ·
      subst hj0
      have hff:=hf0 rfl
      subst hff
      clear hf0
      rw [Nat.add_zero] at cb
      rw [show ((0:Nat):Int)=(0:Int) from rfl] at b1
      clear q2 q3
      have ewj:IntKind.i64.wrap (f:Int)=(f:Int):=IntWalk.i64_in _ ⟨by omega,by omega⟩
      rw [Nat.zero_add] at HY
      have hfc:=fun (W:World)=>bZP first l first W
      generalize hb:fitF first l first=b at hfc HN HY HB
      clear hb
      obtain rfl:b=true:=HB.out
      go_wp2_with (fail)
      go_region_held3 (fun w'=>w'.cell? ⟨now.p,0,none⟩=some (.slice (some ad) s.stk.length c1)∧w'.cell? (ad.add (f))=some (.int .i64 first)∧w'.cell? ⟨g,1,none⟩=some (.string r.f1)) (first|exact ⟨v0,cb,g1r⟩|exact dZo (by assumption) bel1) ((go_at_call 106;(with_reducible refine (hfc _).mono ?_);rintro e w1 ⟨rfl,bel1⟩))
      go_wp2_with (fail)
      go_roundw
      case rel=>exact ⟨1,by omega,by go_num,by simp,hBr.trans (aZo bel1 hBr.size),hid_ (HFT.out.trans (HY.out (by first|rfl|trivial)))⟩
      case measure=>simp [intOf];omega
     ·
      have dj:((j:Int) == 0)=false:=by rw [beq_eq_false_iff_ne];omega
      rw [if_neg hj0]
      clear hf0
      have q4:((f:Int)+(j:Int)).toNat=f+j:=by omega
      have ewj:IntKind.i64.wrap ((f:Int)+(j:Int))=(f:Int)+(j:Int):=IntWalk.i64_in _ ⟨by omega,by omega⟩
      have hfc:=fun (W:World)=>bZP c l first W
      generalize hb:fitF c l first=b at hfc HN HY HB
      clear hb
      obtain rfl:b=true:=HB.out
      go_wp2_with (fail)
      go_region_held3 (fun w'=>w'.cell? ⟨now.p,0,none⟩=some (.slice (some ad) s.stk.length c1)∧w'.cell? (ad.add (f+j))=some (.int .i64 c)∧w'.cell? ⟨g,1,none⟩=some (.string r.f1)) (first|exact ⟨v0,cb,g1r⟩|exact dZo (by assumption) bel1) ((go_at_call 106;(with_reducible refine (hfc _).mono ?_);rintro e w1 ⟨rfl,bel1⟩))
      go_wp2_with (fail)
      go_roundw
      case rel=>exact ⟨j+1,by omega,by go_num,by simp,hBr.trans (aZo bel1 hBr.size),hid_ (HFT.out.trans (HY.out (by first|rfl|trivial)))⟩
      case measure=>simp [intOf];omega
    ·
     have hje:j=r.f1.size:=by omega
     have hfin:aZA s.stk f r.f1 first r.f1.size 0=true:=by rw [HFT.out,hje,Nat.sub_self];rfl
     have hfv:(if j=0 then (0:Int) else first)=first:=by
      by_cases hj0:j=0
      · rw [if_pos hj0,←HFS.out];unfold aZM;rw [if_neg (by omega)]
      · rw [if_neg hj0]
     rw [hfv]
     clear hfv
     have hge:¬(j:Int)<(r.f1.size:Int):=by omega
     go_wp2_with (fail)
     go_meet
     exact ⟨rfl,hfin,hBr⟩
  case rest =>
   obtain ⟨rfl,hfit,hBv⟩:=hcut
   have hput:=HRES.out.symm.trans (cZw k.dep r x s f HF.out (by rw [HFS.out];exact hfit))
   rw [HFS.out] at hput
   have HP:=hid_ hput
   clear hput hfit HRES HFS
   have hf:f≤s.stk.length:=by have:=HF.out;omega
   have hS4:=hS3.below hBv
   have hX4:=(hBv.block _ (aZd hX3)).trans hX3
   have hg4:=(hBv.block _ (aZd hg3)).trans hg3
   have hK4:=(hBv.block _ (aZd hK3)).trans hK3
   have hB4:Below W.heap.size W wc:=hB3.trans (hBv.mono hB3.size)
   clear hBv hX3 hg3 hK3 hS3 hB3 g1
   clear V
   obtain ⟨v0,-,-,z0,-⟩:=hS4.cells
   rw [e1] at v0
   have hsl:=fun (w:World)=>dZf (A:=A1) k1 f hf w
   have hg42:wc.cell? ⟨g,2,none⟩=some (.string r.f2):=by simp [World.cell?,hg4]
   go_upto_block 2 with (fail)
   obtain ⟨hT,hTB,hTf,hTo⟩:=hS4.take e1 hf
   have hX5:=(hTf _ (aZR hX4 hS4.blk (by decide))).trans hX4
   have hg5:=(hTf _ (aZR hg4 hS4.blk (by decide))).trans hg4
   have hK5:k.blk (wc.setCell ⟨now.p,0,none⟩ (.slice A1 f c1)) tv most:=(hTf _ (aZR hK4 hS4.blk (by decide))).trans hK4
   have lS:=hTB.size
   have lB:=hB4.size
   have fB:∀ j,j<W.heap.size→¬now.own j→(wc.setCell ⟨now.p,0,none⟩ (.slice A1 f c1)).heap[j]?=W.heap[j]?:=fun j hj hn=>(hTf j (fun e=>hn (.inl e))).trans (hB4.block j hj)
   have hB5:Below base W (wc.setCell ⟨now.p,0,none⟩ (.slice A1 f c1)):=(hB4.mono hb).trans hTB
   clear hsl hg42 v0 z0 hS4 hX4 hg4 hK4 hTB hTf hB4
   generalize wc.setCell ⟨now.p,0,none⟩ (.slice A1 f c1)=W5 at *
   have hTn:=hT.stk
   have hl0:(s.stk.take f).length=f:=by rw [List.length_take];omega
   generalize s.stk.take f=stk at hT hl0 HP
   obtain ⟨v0,v1,-,z0,-⟩:=hT.cells
   dsimp only at v0 v1 z0
   clear hTn
   generalize hpt2:r.f2=pt at *
   clear hpt2
   have x0:W5.cell? ⟨W.heap.size,0,none⟩=some (.int .i64 x.f0):=by simp [World.cell?,hX5]
   have x1:W5.cell? ⟨W.heap.size,1,none⟩=some (.int .i64 x.f1):=by simp [World.cell?,hX5]
   go_cut [] (fun wx=>SwEnd W5 base ⟨now.p,.slice A1 f c1,now.vl⟩ pt x stk s.loc s.joined first wx)
   case first =>
    have hpt:=HPT.out
    have hz:=HZ.out
    subst hpt
    have hlo:=HA.out (.inr (HL.out rfl))
    obtain ⟨hlo0,hlo1⟩:=hlo
    obtain ⟨AL,cL,eL,kL,rL⟩:=Kd.R_reads hT.loc
    dsimp only at eL kL rL
    obtain ⟨adl,rfl,cbl⟩:=Kd.at_int rL x.f1 hlo0 hlo1
    rw [eL] at v1
    have hrd:rd s.loc x.f1=s.loc.getD x.f1.toNat 0:=rfl
    rw [hrd] at cbl
    have hput:putF ⟨#[76]⟩ x stk s.loc first=.error 217:=by unfold putF;rw [if_neg (by decide),if_neg (by decide),if_pos rfl,if_pos hz]
    have hE:=fun (w':World)=>StepEnd.err (W:=W) (w':=w') (base:=base) (now:=now) (HP.out.trans (by rw [hput];rfl))
    have HE:=hid_ hE
    clear hE hput
    rw [hz] at cbl
    clear hz hrd
    go_wp2_with (fail)
    go_quiet (fail)
    go_wp2_with (fail)
    go_ret
    exact HE.out _ (aZb hB5 nq)
   case rest =>
    clear v0 v1 z0 x0 x1 hg5
    obtain ⟨h',stk2,loc2,hp,hl2,hl3,hpe,hI,ho,hBw,hfw⟩:=hcut
    have HP2:=hid_ (HP.out.trans (by rw [hp]))
    clear HP hp
    have hX6:wc.heap[W.heap.size]?=some (.cells #[.int .i64 x.f0,.int .i64 x.f1,.int .i64 x.f2,.int .i64 x.f3] 66 (0,0)):=(hfw _ (aZd hX5) (own_ne_types hT hX5 (by decide) (by decide))).trans hX5
    have hK6:k.blk wc tv most:=(hfw _ (aZd hK5) (own_ne_types hT hK5 (by decide) (by decide))).trans hK5
    have hB6:Below base W wc:=hB5.trans hBw
    have FR:Hid (∀ j,j<W.heap.size→¬now.own j→wc.heap[j]?=W.heap[j]?):=hid_ (fun j hj hn=>(hfw j (Nat.lt_of_lt_of_le hj (Nat.le_trans lB lS)) (fun h=>hn (hTo j h))).trans (fB j hj hn))
    have OW:Hid (∀ j,h'.own j→now.own j∨W.heap.size≤j):=hid_ (fun j hj=>(ho j hj).elim (fun h=>.inl (hTo j h)) (fun h=>.inr (Nat.le_trans (Nat.le_trans lB lS) h)))
    clear hX5 hK5 hBw hfw ho hT fB hTo hB5
    obtain ⟨A7,c7,e7,-,-⟩:=Kd.R_reads hI.stk
    obtain ⟨w0,-,-,-,-⟩:=hI.cells
    rw [e7,hpe] at w0
    dsimp only at e7 w0
    obtain ⟨-,-,-,-,-,d5,-⟩:=Wk.cells hK6
    have y0:wc.cell? ⟨W.heap.size,0,none⟩=some (.int .i64 x.f0):=by simp [World.cell?,hX6]
    by_cases hov:k.dep<stk2.length
    ·
     have hE:=fun (w':World)=>StepEnd.err (W:=W) (w':=w') (base:=base) (now:=now) (HP2.out.trans (cZH hov))
     have HE:=hid_ hE
     clear hE
     have dov:decide ((stk2.length:Int) > k.dep)=true:=decide_eq_true hov
     go_wp2_with (fail)
     go_quiet (fail)
     go_wp2_with (fail)
     go_ret
     exact HE.out _ (aZb hB6 nq)
    ·
     have dov:decide ((stk2.length:Int) > k.dep)=false:=decide_eq_false hov
     by_cases hst:x.f0=36∧0<stk2.length
     ·
      have hE:=fun (w':World)=>StepEnd.err (W:=W) (w':=w') (base:=base) (now:=now) (HP2.out.trans (cZG hov hst.1 hst.2))
      have HE:=hid_ hE
      have d36:(x.f0 == 36)=true:=by rw [beq_iff_eq];exact hst.1
      have dle:decide ((stk2.length:Int) > 0)=true:=decide_eq_true (by have:=hst.2;omega)
      have dle2:decide (0<stk2.length)=true:=decide_eq_true hst.2
      have dle3:0<stk2.length:=hst.2
      clear hE hst hov
      go_wp2_with (fail)
      go_quiet (fail)
      go_wp2_with (fail)
      go_ret
      exact HE.out _ (aZb hB6 nq)
     ·
      have hE:=HP2.out.trans (dZ6 hov hst)
      have HE:=hid_ hE
      clear hE
      have fin:∀ (nq:Nat),StepEnd W base now res (.returned (.int .i64 0)) (wc.drewN nq):=fun nq=>by
       rw [HE.out]
       exact ⟨rfl,aZb hB6 nq,h',hpe,hI.keep (fun _ _ _=>rfl),OW.out,FR.out⟩
      have FI:=hid_ fin
      clear fin
      by_cases h36:x.f0=36
      ·
       have hz:stk2.length=0:=by
        by_cases h:stk2.length=0
        · exact h
        · exact absurd ⟨h36,by omega⟩ hst
       have d36:(x.f0 == 36)=true:=by rw [beq_iff_eq];exact h36
       have dle:decide ((stk2.length:Int) > 0)=false:=decide_eq_false (by omega)
       have dle2:decide (0<stk2.length)=false:=decide_eq_false (by omega)
       clear h36 hz hst hov
       go_wp2_with (fail)
       go_quiet (fail)
       go_wp2_with (fail)
       go_ret
       exact FI.out _
      ·
       have d36:(x.f0 == 36)=false:=by rw [beq_eq_false_iff_ne];exact h36
       clear h36 hst hov
       go_wp2_with (fail)
       go_quiet (fail)
       go_wp2_with (fail)
       go_ret
       exact FI.out _
end Go.Proofs.Ytbnplhmmbnmagaa.D
