/- The audit's walks: what an instruction does to a state: the switch, way E. -/
import Derived.Test.YtbnplhmmbnmagaazAMm9
set_option maxHeartbeats 4000000
set_option maxRecDepth 100000
set_option linter.all false
namespace Go.Proofs.Ytbnplhmmbnmagaa.D
open Go.RowKit Go.Proofs.YtbnplhmmbnmagaaW.PrintWords Go.Proofs.YtbnplhmmbnmagaaW.PrintLast Go.Proofs.YtbnplhmmbnmagaaW.PrintMore Go.Proofs.Ytbnplhmmbnmagaa.All
theorem step_putE (k:Wk) (W:World) (tv:Value) (most:Int) (base:Nat) (h:k.blk W tv most) (hR:Kd.C k165 W k.ar 37 rowsL) (now:HS) (s:St) (hs:IsSt W base now s) (x:S66) (h1:1≤x.f0) (h2:x.f0≤36)
 (l1:s.stk.length≤4096) (l2:s.loc.length≤4096) (hA:x.f0=31∨x.f0=32→0≤x.f1∧x.f1<s.loc.length) (hb:base≤W.heap.size) (f:Nat) (hf:s.stk.length=f+(aZg rowsL x.f0).f1.size) (hfit:aZA s.stk f (aZg rowsL x.f0).f1 (aZM s.stk f (aZg rowsL x.f0).f1.size) (aZg rowsL x.f0).f1.size 0=true) (hpt:(aZg rowsL x.f0).f2=⟨#[76]⟩) (hz:¬s.loc.getD x.f1.toNat 0=0) :
 Calls Try.prog 95 #[.pointer (some ⟨k.g,0,none⟩),.pointer (some ⟨now.p,0,none⟩),.agg #[.int .i64 x.f0,.int .i64 x.f1,.int .i64 x.f2,.int .i64 x.f3]] W (StepEnd W base now (aZ2 k.dep (aZg rowsL x.f0) x s)):=by
 have hB1:Below W.heap.size W (W.alloc (.cells #[.int .i64 x.f0,.int .i64 x.f1,.int .i64 x.f2,.int .i64 x.f3] 66)):=aZa (Below.refl _ _) _
 have h':k.blk (W.alloc (.cells #[.int .i64 x.f0,.int .i64 x.f1,.int .i64 x.f2,.int .i64 x.f3] 66)) tv most:=(hB1.block _ (aZd h)).trans h
 have hR':=Kd.C_below hR hB1
 have hs':=hs.below hB1
 have hx:=heap_alloc_new W (.cells #[.int .i64 x.f0,.int .i64 x.f1,.int .i64 x.f2,.int .i64 x.f3] 66)
 obtain ⟨t0,t1,t2⟩:=bZI x.f0 h1 h2
 obtain ⟨ar,har,r0,r1,r2⟩:=cZZ hR' x.f0 (by omega) (by omega)
 have HL:=hid_ (gZb x.f0 h1 h2)
 have HA:=hid_ hA
 have HF:=hid_ hf
 have HFIT0:=hid_ hfit
 have HPT:=hid_ hpt
 clear hf hfit hpt
 have HZ:=hid_ hz
 clear hz
 clear hA
 generalize aZg rowsL x.f0=r at *
 generalize hres:aZ2 k.dep r x s=res
 have HRES:=hid_ hres
 clear hres
 go_enter Try.func95,Try.ntmps95
 go_upto_region 1 with (fail)
 generalize (W.alloc (.cells #[.int .i64 x.f0,.int .i64 x.f1,.int .i64 x.f2,.int .i64 x.f3] 66))=W1 at *
 obtain ⟨-,-,-,-,-,-,-,q7,-⟩:=Wk.cells h'
 rw [har] at q7
 have y0:W1.cell? ⟨W.heap.size,0,none⟩=some (.int .i64 x.f0):=by simp [World.cell?,hx]
 have i0:0≤x.f0:=by omega
 have i1:x.f0<37:=by omega
 have n1:=World.new_ne W1 _ q7
 have n2:=World.new_ne W1 _ y0
 have n3:=World.new_ne W1 _ r0
 have n4:=World.new_ne W1 _ r1
 have n5:=World.new_ne W1 _ r2
 go_cut [7] (fun s7 wx=>∃ g:Nat,s7=.pointer (some ⟨g,0,none⟩)∧wx.heap[g]?=some (.cells #[.string r.f0,.string r.f1,.string r.f2] 165 (0,0))∧Below W1.heap.size W1 wx)
 case first =>
  go_region_held3 (fun w'=>w'.cell? ⟨k.g,7,none⟩=some (.slice (some ar) 37 k.cr)∧w'.cell? ⟨W.heap.size,0,none⟩=some (.int .i64 x.f0)∧w'.cell? (ar.add (x.f0.toNat*3))=some (.string r.f0)∧w'.cell? ⟨(ar.add (x.f0.toNat*3)).block,(ar.add (x.f0.toNat*3)).off+1,none⟩=some (.string r.f1)∧w'.cell? ⟨(ar.add (x.f0.toNat*3)).block,(ar.add (x.f0.toNat*3)).off+2,none⟩=some (.string r.f2)) (go_keep) (fail)
  all_goals (go_wp2_with (fail);go_meet;exact ⟨_,rfl,heap_alloc_new _ _,(aZa (Below.refl _ _) _).drew⟩)
 case rest =>
  obtain ⟨g,rfl,hg,hBx⟩:=hcut
  have hB2:Below W.heap.size W wc:=hB1.trans (hBx.mono hB1.size)
  have hX:wc.heap[W.heap.size]?=some (.cells #[.int .i64 x.f0,.int .i64 x.f1,.int .i64 x.f2,.int .i64 x.f3] 66 (0,0)):=(hBx.block _ (aZd hx)).trans hx
  have hK:=(hBx.block _ (aZd h')).trans h'
  have hS:=hs'.below hBx
  clear hBx h' hR' hs' hx r0 r1 r2 har q7 y0 n1 n2 n3 n4 n5 hB1 t0
  clear W1
  obtain ⟨A1,c1,e1,k1,r1⟩:=Kd.R_reads hS.stk
  obtain ⟨v0,v1,-,z0,-⟩:=hS.cells
  rw [e1] at v0
  have g1:wc.cell? ⟨g,1,none⟩=some (.string r.f1):=by simp [World.cell?,hg]
  have ew:IntKind.i64.wrap ((s.stk.length:Int) - (r.f1.size:Int))=(f:Int):=(IntWalk.i64_in _ ⟨by have:=HF.out;omega,by have:=HF.out;omega⟩).trans (by have:=HF.out;omega)
  go_wp2_with (fail)
  go_quiet (fail)
  clear ew
  have hB3:Below W.heap.size W (wc.drewN nq):=aZb hB2 nq
  have hX3:(wc.drewN nq).heap[W.heap.size]?=some (.cells #[.int .i64 x.f0,.int .i64 x.f1,.int .i64 x.f2,.int .i64 x.f3] 66 (0,0)):=hX
  have hg3:(wc.drewN nq).heap[g]?=some (.cells #[.string r.f0,.string r.f1,.string r.f2] 165 (0,0)):=hg
  have hK3:k.blk (wc.drewN nq) tv most:=hK
  have hS3:IsSt (wc.drewN nq) base now s:=hS.keep (fun _ _ _=>rfl)
  clear hB2 hX hg hK hS v0 v1 z0 g1 r1
  generalize wc.drewN nq=V at hB3 hX3 hg3 hK3 hS3 ⊢
  clear wc
  have g1:V.cell? ⟨g,1,none⟩=some (.string r.f1):=by simp [World.cell?,hg3]
  go_upto_block 0 with (fail)
  generalize hfs:aZM s.stk f r.f1.size=first
  have HFIT:Hid (aZA s.stk f r.f1 first r.f1.size 0=true):=hid_ (hfs▸HFIT0.out)
  clear HFIT0
  have HFS:=hid_ hfs
  clear hfs
  go_cut [9] (fun s9 wx=>s9=.int .i64 first∧aZA s.stk f r.f1 first r.f1.size 0=true∧Below V.heap.size V wx)
  case first =>
   go_wp2_with (fail)
   go_loopw [33,9] (fun i u wr=>∃ j:Nat,j≤r.f1.size∧i=.int .i64 j∧u=.int .i64 (if j=0 then 0 else first)∧Below V.heap.size V wr∧Hid (aZA s.stk f r.f1 first r.f1.size 0=aZA s.stk f r.f1 first (r.f1.size - j) j)) (fun i _ _=>r.f1.size - (intOf i).toNat)
   case atStart=>exact ⟨0,by omega,rfl,rfl,Below.refl _ _,hid_ rfl⟩
   case round =>
    obtain ⟨j,hj,rfl,rfl,hBr,HFT⟩:=hrel
    have hSr:=hS3.below hBr
    obtain ⟨v0,-,-,-,-⟩:=hSr.cells
    rw [e1] at v0
    have g1r:=(hBr.cell (aZG g1)).trans g1
    clear g1
    by_cases hlt:j<r.f1.size
    ·
     have hst:=hSr.stk
     rw [e1] at hst
     obtain ⟨A2,c2,e2,-,r2⟩:=Kd.R_reads hst
     cases e2
     obtain ⟨ad,rfl,cb⟩:=Kd.at_int r2 ((f+j:Nat):Int) (by omega) (by have:=HF.out;omega)
     rw [Int.toNat_natCast] at cb
     have b1:=ixs r.f1 (j:Int) (by omega) (by omega)
     have hd:r.f1.size - j=(r.f1.size - j - 1)+1:=by omega
     have HN:Hid (fitF (s.stk.getD (f+j) 0) (bt r.f1 j) first=false→res=.error 215):=hid_ (fun h=>HRES.out.symm.trans (bZU k.dep r x s f HF.out (by rw [HFS.out,HFT.out,hd];exact bZs h)))
     have HY:Hid (fitF (s.stk.getD (f+j) 0) (bt r.f1 j) first=true→aZA s.stk f r.f1 first (r.f1.size - j) j=aZA s.stk f r.f1 first (r.f1.size - (j+1)) (j+1)):=hid_ (fun h=>by rw [hd,cZm h,show r.f1.size - j - 1=r.f1.size - (j+1) by omega])
     have hb':=hb
     have HB : Hid (fitF (s.stk.getD (f + j) 0) (bt r.f1 j) first = true) := hid_ (by
      cases hbb:fitF (s.stk.getD (f+j) 0) (bt r.f1 j) first with
      | true=>rfl
      | false =>
       have h3:=HFIT.out
       rw [HFT.out,hd,bZs hbb] at h3
       cases h3)
     have hr:rd s.stk ((f+j:Nat):Int)=s.stk.getD (f+j) 0:=by unfold rd;rw [Int.toNat_natCast]
     rw [hr] at cb
     have hf0:j=0→first=s.stk.getD (f+j) 0:=fun h=>by subst h;rw [←HFS.out];unfold aZM;rw [if_pos (by omega)];rfl
     generalize s.stk.getD (f+j) 0=c at cb HN HY hf0 HB
     generalize bt r.f1 (j:Int)=l at b1 HN HY HB
     clear hr hd
     have q0:(0:Int)≤(f:Int):=by omega
     have q1:(f:Int)<(s.stk.length:Int):=by have:=HF.out;omega
     have q2:(0:Int)≤(f:Int)+(j:Int):=by omega
     have q3:(f:Int)+(j:Int)<(s.stk.length:Int):=by have:=HF.out;omega
     by_cases hj0:j=0
     ·
      subst hj0
      have hff:=hf0 rfl
      subst hff
      clear hf0
      rw [Nat.add_zero] at cb
      rw [show ((0:Nat):Int)=(0:Int) from rfl] at b1
      clear q2 q3
      have ewj:IntKind.i64.wrap (f:Int)=(f:Int):=IntWalk.i64_in _ ⟨by omega,by omega⟩
      rw [Nat.zero_add] at HY
      have hfc:=fun (W:World)=>bZP first l first W
      generalize hb:fitF first l first=b at hfc HN HY HB
      clear hb
      obtain rfl:b=true:=HB.out
      go_wp2_with (fail)
      go_region_held3 (fun w'=>w'.cell? ⟨now.p,0,none⟩=some (.slice (some ad) s.stk.length c1)∧w'.cell? (ad.add (f))=some (.int .i64 first)∧w'.cell? ⟨g,1,none⟩=some (.string r.f1)) (first|exact ⟨v0,cb,g1r⟩|exact dZo (by assumption) bel1) ((go_at_call 106;(with_reducible refine (hfc _).mono ?_);rintro e w1 ⟨rfl,bel1⟩))
      go_wp2_with (fail)
      go_roundw
      case rel=>exact ⟨1,by omega,by go_num,by simp,hBr.trans (aZo bel1 hBr.size),hid_ (HFT.out.trans (HY.out (by first|rfl|trivial)))⟩
      case measure=>simp [intOf];omega
     ·
      have dj:((j:Int) == 0)=false:=by rw [beq_eq_false_iff_ne];omega
      rw [if_neg hj0]
      clear hf0
      have q4:((f:Int)+(j:Int)).toNat=f+j:=by omega
      have ewj:IntKind.i64.wrap ((f:Int)+(j:Int))=(f:Int)+(j:Int):=IntWalk.i64_in _ ⟨by omega,by omega⟩
      have hfc:=fun (W:World)=>bZP c l first W
      generalize hb:fitF c l first=b at hfc HN HY HB
      clear hb
      obtain rfl:b=true:=HB.out
      go_wp2_with (fail)
      go_region_held3 (fun w'=>w'.cell? ⟨now.p,0,none⟩=some (.slice (some ad) s.stk.length c1)∧w'.cell? (ad.add (f+j))=some (.int .i64 c)∧w'.cell? ⟨g,1,none⟩=some (.string r.f1)) (first|exact ⟨v0,cb,g1r⟩|exact dZo (by assumption) bel1) ((go_at_call 106;(with_reducible refine (hfc _).mono ?_);rintro e w1 ⟨rfl,bel1⟩))
      go_wp2_with (fail)
      go_roundw
      case rel=>exact ⟨j+1,by omega,by go_num,by simp,hBr.trans (aZo bel1 hBr.size),hid_ (HFT.out.trans (HY.out (by first|rfl|trivial)))⟩
      case measure=>simp [intOf];omega
    ·
     have hje:j=r.f1.size:=by omega
     have hfin:aZA s.stk f r.f1 first r.f1.size 0=true:=by rw [HFT.out,hje,Nat.sub_self];rfl
     have hfv:(if j=0 then (0:Int) else first)=first:=by
      by_cases hj0:j=0
      · rw [if_pos hj0,←HFS.out];unfold aZM;rw [if_neg (by omega)]
      · rw [if_neg hj0]
     rw [hfv]
     clear hfv
     have hge:¬(j:Int)<(r.f1.size:Int):=by omega
     go_wp2_with (fail)
     go_meet
     exact ⟨rfl,hfin,hBr⟩
  case rest =>
   obtain ⟨rfl,hfit,hBv⟩:=hcut
   have hput:=HRES.out.symm.trans (cZw k.dep r x s f HF.out (by rw [HFS.out];exact hfit))
   rw [HFS.out] at hput
   have HP:=hid_ hput
   clear hput hfit HRES HFS
   have hf:f≤s.stk.length:=by have:=HF.out;omega
   have hS4:=hS3.below hBv
   have hX4:=(hBv.block _ (aZd hX3)).trans hX3
   have hg4:=(hBv.block _ (aZd hg3)).trans hg3
   have hK4:=(hBv.block _ (aZd hK3)).trans hK3
   have hB4:Below W.heap.size W wc:=hB3.trans (hBv.mono hB3.size)
   clear hBv hX3 hg3 hK3 hS3 hB3 g1
   clear V
   obtain ⟨v0,-,-,z0,-⟩:=hS4.cells
   rw [e1] at v0
   have hsl:=fun (w:World)=>dZf (A:=A1) k1 f hf w
   have hg42:wc.cell? ⟨g,2,none⟩=some (.string r.f2):=by simp [World.cell?,hg4]
   go_upto_block 2 with (fail)
   obtain ⟨hT,hTB,hTf,hTo⟩:=hS4.take e1 hf
   have hX5:=(hTf _ (aZR hX4 hS4.blk (by decide))).trans hX4
   have hg5:=(hTf _ (aZR hg4 hS4.blk (by decide))).trans hg4
   have hK5:k.blk (wc.setCell ⟨now.p,0,none⟩ (.slice A1 f c1)) tv most:=(hTf _ (aZR hK4 hS4.blk (by decide))).trans hK4
   have lS:=hTB.size
   have lB:=hB4.size
   have fB:∀ j,j<W.heap.size→¬now.own j→(wc.setCell ⟨now.p,0,none⟩ (.slice A1 f c1)).heap[j]?=W.heap[j]?:=fun j hj hn=>(hTf j (fun e=>hn (.inl e))).trans (hB4.block j hj)
   have hB5:Below base W (wc.setCell ⟨now.p,0,none⟩ (.slice A1 f c1)):=(hB4.mono hb).trans hTB
   clear hsl hg42 v0 z0 hS4 hX4 hg4 hK4 hTB hTf hB4
   generalize wc.setCell ⟨now.p,0,none⟩ (.slice A1 f c1)=W5 at *
   have hTn:=hT.stk
   have hl0:(s.stk.take f).length=f:=by rw [List.length_take];omega
   generalize s.stk.take f=stk at hT hl0 HP
   obtain ⟨v0,v1,-,z0,-⟩:=hT.cells
   dsimp only at v0 v1 z0
   clear hTn
   generalize hpt2:r.f2=pt at *
   clear hpt2
   have x0:W5.cell? ⟨W.heap.size,0,none⟩=some (.int .i64 x.f0):=by simp [World.cell?,hX5]
   have x1:W5.cell? ⟨W.heap.size,1,none⟩=some (.int .i64 x.f1):=by simp [World.cell?,hX5]
   go_cut [] (fun wx=>SwEnd W5 base ⟨now.p,.slice A1 f c1,now.vl⟩ pt x stk s.loc s.joined first wx)
   case first =>
    have hpt:=HPT.out
    have hz:=HZ.out
    subst hpt
    have hlo:=HA.out (.inr (HL.out rfl))
    obtain ⟨hlo0,hlo1⟩:=hlo
    obtain ⟨AL,cL,eL,kL,rL⟩:=Kd.R_reads hT.loc
    dsimp only at eL kL rL
    obtain ⟨adl,rfl,cbl⟩:=Kd.at_int rL x.f1 hlo0 hlo1
    rw [eL] at v1
    have hrd:rd s.loc x.f1=s.loc.getD x.f1.toNat 0:=rfl
    rw [hrd] at cbl
    have hput:putF ⟨#[76]⟩ x stk s.loc first=.ok (stk++[s.loc.getD x.f1.toNat 0],s.loc):=by unfold putF;rw [if_neg (by decide),if_neg (by decide),if_pos rfl,if_neg hz]
    have hz2:(s.loc.getD x.f1.toNat 0 == 0)=false:=by rw [beq_eq_false_iff_ne];exact hz
    have HPUT:=hid_ hput
    clear hput hz hrd
    generalize s.loc.getD x.f1.toNat 0=y at cbl hz2 HPUT
    go_wp2_with (fail)
    go_quiet (fail)
    have hT6:IsSt (W5.drewN nq) base ⟨now.p,.slice A1 f c1,now.vl⟩ ⟨stk,s.loc,s.joined⟩:=hT.keep (fun _ _ _=>rfl)
    have hg6:W5.grownBy (W5.drewN nq) (Value.slice A1 f c1).ownBlock:=⟨rfl,rfl,rfl,Nat.le_refl _,fun _ _ _=>rfl⟩
    have v06:(W5.drewN nq).cell? ⟨now.p,0,none⟩=some (.slice A1 f c1):=v0
    have v16:(W5.drewN nq).cell? ⟨now.p,1,none⟩=some (.slice (some adl) s.loc.length cL):=v1
    have x16:(W5.drewN nq).cell? ⟨W.heap.size,1,none⟩=some (.int .i64 x.f1):=x1
    have cb6:(W5.drewN nq).cell? (adl.add x.f1.toNat)=some (.int .i64 y):=cbl
    have s6:(W5.drewN nq).heap.size=W5.heap.size:=rfl
    have HS6:=hid_ s6
    clear s6
    generalize W5.drewN nq=W6 at *
    have n1:=fun o:Obj=>((aZa (Below.refl W6.heap.size W6) o).cell (aZG v06)).trans v06
    have n2:=fun o:Obj=>((aZa (Below.refl W6.heap.size W6) o).cell (aZG v16)).trans v16
    have n3:=fun o:Obj=>((aZa (Below.refl W6.heap.size W6) o).cell (aZG x16)).trans x16
    have n4:=fun o:Obj=>((aZa (Below.refl W6.heap.size W6) o).cell (aZG cb6)).trans cb6
    go_wp2_with (fail)
    go_region_law (refine Kd.R_append_step (Kd.int .i64) (W:=W6.drew) (w0:=W6) base (by rfl) (.tmp 127) (.tmp 136) 51 73 (.int .i64 0) 8 rfl Try.underlying51 info73 rfl (by decide) (by omega) (.slice A1 f c1) stk y [.int .i64 y] (fun k=>(Value.slice A1 f c1).ownBlock=some k∨W6.heap.size≤k) (fun _=>False) rfl rfl rfl (fun _ hk=>hk.elim) (fun _ hk=>.inr hk) (Kd.R_mono (Kd.R_drew hT6.stk) (fun _ hk=>.inl hk)) (Below.refl _ _).drew (by show base≤W6.heap.size;rw [HS6.out];exact Nat.le_trans hb (Nat.le_trans lB lS)) (by omega) ?_;intro vv w1 hrow1 hb1 hg1 hv1;obtain ⟨A2,c2,rfl⟩:=Kd.R_slice hrow1;have pc:=dZ0 (h:=⟨now.p,.slice A1 f c1,now.vl⟩) hT6 ⟨hg1.os,hg1.tape,hg1.output,hg1.size,hg1.block⟩;dsimp only at pc;obtain ⟨u0,u1⟩:=pc)
    all_goals
     go_wp2_with (fail)
     go_meet
     have h:=SwEnd.push (x:=x) hT HPUT.out hrow1 (cZl hg6 ⟨hg1.os,hg1.tape,hg1.output,hg1.size,hg1.block⟩) (hv1.imp id (fun ⟨b,h1,h2⟩=>⟨b,h1,HS6.out▸h2⟩)) 0
     rw [show (stk++[y]).length=f+1 by rw [List.length_append,hl0];rfl] at h
     exact h
   case rest =>
    clear v0 v1 z0 x0 x1 hg5
    obtain ⟨h',stk2,loc2,hp,hl2,hl3,hpe,hI,ho,hBw,hfw⟩:=hcut
    have HP2:=hid_ (HP.out.trans (by rw [hp]))
    clear HP hp
    have hX6:wc.heap[W.heap.size]?=some (.cells #[.int .i64 x.f0,.int .i64 x.f1,.int .i64 x.f2,.int .i64 x.f3] 66 (0,0)):=(hfw _ (aZd hX5) (own_ne_types hT hX5 (by decide) (by decide))).trans hX5
    have hK6:k.blk wc tv most:=(hfw _ (aZd hK5) (own_ne_types hT hK5 (by decide) (by decide))).trans hK5
    have hB6:Below base W wc:=hB5.trans hBw
    have FR:Hid (∀ j,j<W.heap.size→¬now.own j→wc.heap[j]?=W.heap[j]?):=hid_ (fun j hj hn=>(hfw j (Nat.lt_of_lt_of_le hj (Nat.le_trans lB lS)) (fun h=>hn (hTo j h))).trans (fB j hj hn))
    have OW:Hid (∀ j,h'.own j→now.own j∨W.heap.size≤j):=hid_ (fun j hj=>(ho j hj).elim (fun h=>.inl (hTo j h)) (fun h=>.inr (Nat.le_trans (Nat.le_trans lB lS) h)))
    clear hX5 hK5 hBw hfw ho hT fB hTo hB5
    obtain ⟨A7,c7,e7,-,-⟩:=Kd.R_reads hI.stk
    obtain ⟨w0,-,-,-,-⟩:=hI.cells
    rw [e7,hpe] at w0
    dsimp only at e7 w0
    obtain ⟨-,-,-,-,-,d5,-⟩:=Wk.cells hK6
    have y0:wc.cell? ⟨W.heap.size,0,none⟩=some (.int .i64 x.f0):=by simp [World.cell?,hX6]
    by_cases hov:k.dep<stk2.length
    ·
     have hE:=fun (w':World)=>StepEnd.err (W:=W) (w':=w') (base:=base) (now:=now) (HP2.out.trans (cZH hov))
     have HE:=hid_ hE
     clear hE
     have dov:decide ((stk2.length:Int) > k.dep)=true:=decide_eq_true hov
     go_wp2_with (fail)
     go_quiet (fail)
     go_wp2_with (fail)
     go_ret
     exact HE.out _ (aZb hB6 nq)
    ·
     have dov:decide ((stk2.length:Int) > k.dep)=false:=decide_eq_false hov
     by_cases hst:x.f0=36∧0<stk2.length
     ·
      have hE:=fun (w':World)=>StepEnd.err (W:=W) (w':=w') (base:=base) (now:=now) (HP2.out.trans (cZG hov hst.1 hst.2))
      have HE:=hid_ hE
      have d36:(x.f0 == 36)=true:=by rw [beq_iff_eq];exact hst.1
      have dle:decide ((stk2.length:Int) > 0)=true:=decide_eq_true (by have:=hst.2;omega)
      have dle2:decide (0<stk2.length)=true:=decide_eq_true hst.2
      have dle3:0<stk2.length:=hst.2
      clear hE hst hov
      go_wp2_with (fail)
      go_quiet (fail)
      go_wp2_with (fail)
      go_ret
      exact HE.out _ (aZb hB6 nq)
     ·
      have hE:=HP2.out.trans (dZ6 hov hst)
      have HE:=hid_ hE
      clear hE
      have fin:∀ (nq:Nat),StepEnd W base now res (.returned (.int .i64 0)) (wc.drewN nq):=fun nq=>by
       rw [HE.out]
       exact ⟨rfl,aZb hB6 nq,h',hpe,hI.keep (fun _ _ _=>rfl),OW.out,FR.out⟩
      have FI:=hid_ fin
      clear fin
      by_cases h36:x.f0=36
      ·
       have hz:stk2.length=0:=by
        by_cases h:stk2.length=0
        · exact h
        · exact absurd ⟨h36,by omega⟩ hst
       have d36:(x.f0 == 36)=true:=by rw [beq_iff_eq];exact h36
       have dle:decide ((stk2.length:Int) > 0)=false:=decide_eq_false (by omega)
       have dle2:decide (0<stk2.length)=false:=decide_eq_false (by omega)
       clear h36 hz hst hov
       go_wp2_with (fail)
       go_quiet (fail)
       go_wp2_with (fail)
       go_ret
       exact FI.out _
      ·
       have d36:(x.f0 == 36)=false:=by rw [beq_eq_false_iff_ne];exact h36
       clear h36 hst hov
       go_wp2_with (fail)
       go_quiet (fail)
       go_wp2_with (fail)
       go_ret
       exact FI.out _
theorem step_putF (k:Wk) (W:World) (tv:Value) (most:Int) (base:Nat) (h:k.blk W tv most) (hR:Kd.C k165 W k.ar 37 rowsL) (now:HS) (s:St) (hs:IsSt W base now s) (x:S66) (h1:1≤x.f0) (h2:x.f0≤36)
 (l1:s.stk.length≤4096) (l2:s.loc.length≤4096) (hA:x.f0=31∨x.f0=32→0≤x.f1∧x.f1<s.loc.length) (hb:base≤W.heap.size) (f:Nat) (hf:s.stk.length=f+(aZg rowsL x.f0).f1.size) (hfit:aZA s.stk f (aZg rowsL x.f0).f1 (aZM s.stk f (aZg rowsL x.f0).f1.size) (aZg rowsL x.f0).f1.size 0=true) (hp0:(aZg rowsL x.f0).f2≠⟨#[]⟩) (hp1:(aZg rowsL x.f0).f2≠⟨#[61]⟩) (hp2:(aZg rowsL x.f0).f2≠⟨#[76]⟩) :
 Calls Try.prog 95 #[.pointer (some ⟨k.g,0,none⟩),.pointer (some ⟨now.p,0,none⟩),.agg #[.int .i64 x.f0,.int .i64 x.f1,.int .i64 x.f2,.int .i64 x.f3]] W (StepEnd W base now (aZ2 k.dep (aZg rowsL x.f0) x s)):=by
 have hB1:Below W.heap.size W (W.alloc (.cells #[.int .i64 x.f0,.int .i64 x.f1,.int .i64 x.f2,.int .i64 x.f3] 66)):=aZa (Below.refl _ _) _
 have h':k.blk (W.alloc (.cells #[.int .i64 x.f0,.int .i64 x.f1,.int .i64 x.f2,.int .i64 x.f3] 66)) tv most:=(hB1.block _ (aZd h)).trans h
 have hR':=Kd.C_below hR hB1
 have hs':=hs.below hB1
 have hx:=heap_alloc_new W (.cells #[.int .i64 x.f0,.int .i64 x.f1,.int .i64 x.f2,.int .i64 x.f3] 66)
 obtain ⟨t0,t1,t2⟩:=bZI x.f0 h1 h2
 obtain ⟨ar,har,r0,r1,r2⟩:=cZZ hR' x.f0 (by omega) (by omega)
 have HL:=hid_ (gZb x.f0 h1 h2)
 have HA:=hid_ hA
 have HF:=hid_ hf
 have HFIT0:=hid_ hfit
 have HP0:=hid_ hp0
 have HP1:=hid_ hp1
 have HP2:=hid_ hp2
 clear hf hfit hp0 hp1 hp2
 clear hA
 generalize aZg rowsL x.f0=r at *
 generalize hres:aZ2 k.dep r x s=res
 have HRES:=hid_ hres
 clear hres
 go_enter Try.func95,Try.ntmps95
 go_upto_region 1 with (fail)
 generalize (W.alloc (.cells #[.int .i64 x.f0,.int .i64 x.f1,.int .i64 x.f2,.int .i64 x.f3] 66))=W1 at *
 obtain ⟨-,-,-,-,-,-,-,q7,-⟩:=Wk.cells h'
 rw [har] at q7
 have y0:W1.cell? ⟨W.heap.size,0,none⟩=some (.int .i64 x.f0):=by simp [World.cell?,hx]
 have i0:0≤x.f0:=by omega
 have i1:x.f0<37:=by omega
 have n1:=World.new_ne W1 _ q7
 have n2:=World.new_ne W1 _ y0
 have n3:=World.new_ne W1 _ r0
 have n4:=World.new_ne W1 _ r1
 have n5:=World.new_ne W1 _ r2
 go_cut [7] (fun s7 wx=>∃ g:Nat,s7=.pointer (some ⟨g,0,none⟩)∧wx.heap[g]?=some (.cells #[.string r.f0,.string r.f1,.string r.f2] 165 (0,0))∧Below W1.heap.size W1 wx)
 case first =>
  go_region_held3 (fun w'=>w'.cell? ⟨k.g,7,none⟩=some (.slice (some ar) 37 k.cr)∧w'.cell? ⟨W.heap.size,0,none⟩=some (.int .i64 x.f0)∧w'.cell? (ar.add (x.f0.toNat*3))=some (.string r.f0)∧w'.cell? ⟨(ar.add (x.f0.toNat*3)).block,(ar.add (x.f0.toNat*3)).off+1,none⟩=some (.string r.f1)∧w'.cell? ⟨(ar.add (x.f0.toNat*3)).block,(ar.add (x.f0.toNat*3)).off+2,none⟩=some (.string r.f2)) (go_keep) (fail)
  all_goals (go_wp2_with (fail);go_meet;exact ⟨_,rfl,heap_alloc_new _ _,(aZa (Below.refl _ _) _).drew⟩)
 case rest =>
  obtain ⟨g,rfl,hg,hBx⟩:=hcut
  have hB2:Below W.heap.size W wc:=hB1.trans (hBx.mono hB1.size)
  have hX:wc.heap[W.heap.size]?=some (.cells #[.int .i64 x.f0,.int .i64 x.f1,.int .i64 x.f2,.int .i64 x.f3] 66 (0,0)):=(hBx.block _ (aZd hx)).trans hx
  have hK:=(hBx.block _ (aZd h')).trans h'
  have hS:=hs'.below hBx
  clear hBx h' hR' hs' hx r0 r1 r2 har q7 y0 n1 n2 n3 n4 n5 hB1 t0
  clear W1
  obtain ⟨A1,c1,e1,k1,r1⟩:=Kd.R_reads hS.stk
  obtain ⟨v0,v1,-,z0,-⟩:=hS.cells
  rw [e1] at v0
  have g1:wc.cell? ⟨g,1,none⟩=some (.string r.f1):=by simp [World.cell?,hg]
  have ew:IntKind.i64.wrap ((s.stk.length:Int) - (r.f1.size:Int))=(f:Int):=(IntWalk.i64_in _ ⟨by have:=HF.out;omega,by have:=HF.out;omega⟩).trans (by have:=HF.out;omega)
  go_wp2_with (fail)
  go_quiet (fail)
  clear ew
  have hB3:Below W.heap.size W (wc.drewN nq):=aZb hB2 nq
  have hX3:(wc.drewN nq).heap[W.heap.size]?=some (.cells #[.int .i64 x.f0,.int .i64 x.f1,.int .i64 x.f2,.int .i64 x.f3] 66 (0,0)):=hX
  have hg3:(wc.drewN nq).heap[g]?=some (.cells #[.string r.f0,.string r.f1,.string r.f2] 165 (0,0)):=hg
  have hK3:k.blk (wc.drewN nq) tv most:=hK
  have hS3:IsSt (wc.drewN nq) base now s:=hS.keep (fun _ _ _=>rfl)
  clear hB2 hX hg hK hS v0 v1 z0 g1 r1
  generalize wc.drewN nq=V at hB3 hX3 hg3 hK3 hS3 ⊢
  clear wc
  have g1:V.cell? ⟨g,1,none⟩=some (.string r.f1):=by simp [World.cell?,hg3]
  go_upto_block 0 with (fail)
  generalize hfs:aZM s.stk f r.f1.size=first
  have HFIT:Hid (aZA s.stk f r.f1 first r.f1.size 0=true):=hid_ (hfs▸HFIT0.out)
  clear HFIT0
  have HFS:=hid_ hfs
  clear hfs
  go_cut [9] (fun s9 wx=>s9=.int .i64 first∧aZA s.stk f r.f1 first r.f1.size 0=true∧Below V.heap.size V wx)
  case first =>
   go_wp2_with (fail)
   go_loopw [33,9] (fun i u wr=>∃ j:Nat,j≤r.f1.size∧i=.int .i64 j∧u=.int .i64 (if j=0 then 0 else first)∧Below V.heap.size V wr∧Hid (aZA s.stk f r.f1 first r.f1.size 0=aZA s.stk f r.f1 first (r.f1.size - j) j)) (fun i _ _=>r.f1.size - (intOf i).toNat)
   case atStart=>exact ⟨0,by omega,rfl,rfl,Below.refl _ _,hid_ rfl⟩
   case round =>
    obtain ⟨j,hj,rfl,rfl,hBr,HFT⟩:=hrel
    have hSr:=hS3.below hBr
    obtain ⟨v0,-,-,-,-⟩:=hSr.cells
    rw [e1] at v0
    have g1r:=(hBr.cell (aZG g1)).trans g1
    clear g1
    by_cases hlt:j<r.f1.size
    ·
     have hst:=hSr.stk
     rw [e1] at hst
     obtain ⟨A2,c2,e2,-,r2⟩:=Kd.R_reads hst
     cases e2
     obtain ⟨ad,rfl,cb⟩:=Kd.at_int r2 ((f+j:Nat):Int) (by omega) (by have:=HF.out;omega)
     rw [Int.toNat_natCast] at cb
     have b1:=ixs r.f1 (j:Int) (by omega) (by omega)
     have hd:r.f1.size - j=(r.f1.size - j - 1)+1:=by omega
     have HN:Hid (fitF (s.stk.getD (f+j) 0) (bt r.f1 j) first=false→res=.error 215):=hid_ (fun h=>HRES.out.symm.trans (bZU k.dep r x s f HF.out (by rw [HFS.out,HFT.out,hd];exact bZs h)))
     have HY:Hid (fitF (s.stk.getD (f+j) 0) (bt r.f1 j) first=true→aZA s.stk f r.f1 first (r.f1.size - j) j=aZA s.stk f r.f1 first (r.f1.size - (j+1)) (j+1)):=hid_ (fun h=>by rw [hd,cZm h,show r.f1.size - j - 1=r.f1.size - (j+1) by omega])
     have hb':=hb
     have HB : Hid (fitF (s.stk.getD (f + j) 0) (bt r.f1 j) first = true) := hid_ (by
      cases hbb:fitF (s.stk.getD (f+j) 0) (bt r.f1 j) first with
      | true=>rfl
      | false =>
       have h3:=HFIT.out
       rw [HFT.out,hd,bZs hbb] at h3
       cases h3)
     have hr:rd s.stk ((f+j:Nat):Int)=s.stk.getD (f+j) 0:=by unfold rd;rw [Int.toNat_natCast]
     rw [hr] at cb
     have hf0:j=0→first=s.stk.getD (f+j) 0:=fun h=>by subst h;rw [←HFS.out];unfold aZM;rw [if_pos (by omega)];rfl
     generalize s.stk.getD (f+j) 0=c at cb HN HY hf0 HB
     generalize bt r.f1 (j:Int)=l at b1 HN HY HB
     clear hr hd
     have q0:(0:Int)≤(f:Int):=by omega
     have q1:(f:Int)<(s.stk.length:Int):=by have:=HF.out;omega
     have q2:(0:Int)≤(f:Int)+(j:Int):=by omega
     have q3:(f:Int)+(j:Int)<(s.stk.length:Int):=by have:=HF.out;omega
     by_cases hj0:j=0
     ·
      subst hj0
      have hff:=hf0 rfl
      subst hff
      clear hf0
      rw [Nat.add_zero] at cb
      rw [show ((0:Nat):Int)=(0:Int) from rfl] at b1
      clear q2 q3
      have ewj:IntKind.i64.wrap (f:Int)=(f:Int):=IntWalk.i64_in _ ⟨by omega,by omega⟩
      rw [Nat.zero_add] at HY
      have hfc:=fun (W:World)=>bZP first l first W
      generalize hb:fitF first l first=b at hfc HN HY HB
      clear hb
      obtain rfl:b=true:=HB.out
      go_wp2_with (fail)
      go_region_held3 (fun w'=>w'.cell? ⟨now.p,0,none⟩=some (.slice (some ad) s.stk.length c1)∧w'.cell? (ad.add (f))=some (.int .i64 first)∧w'.cell? ⟨g,1,none⟩=some (.string r.f1)) (first|exact ⟨v0,cb,g1r⟩|exact dZo (by assumption) bel1) ((go_at_call 106;(with_reducible refine (hfc _).mono ?_);rintro e w1 ⟨rfl,bel1⟩))
      go_wp2_with (fail)
      go_roundw
      case rel=>exact ⟨1,by omega,by go_num,by simp,hBr.trans (aZo bel1 hBr.size),hid_ (HFT.out.trans (HY.out (by first|rfl|trivial)))⟩
      case measure=>simp [intOf];omega
     ·
      have dj:((j:Int) == 0)=false:=by rw [beq_eq_false_iff_ne];omega
      rw [if_neg hj0]
      clear hf0
      have q4:((f:Int)+(j:Int)).toNat=f+j:=by omega
      have ewj:IntKind.i64.wrap ((f:Int)+(j:Int))=(f:Int)+(j:Int):=IntWalk.i64_in _ ⟨by omega,by omega⟩
      have hfc:=fun (W:World)=>bZP c l first W
      generalize hb:fitF c l first=b at hfc HN HY HB
      clear hb
      obtain rfl:b=true:=HB.out
      go_wp2_with (fail)
      go_region_held3 (fun w'=>w'.cell? ⟨now.p,0,none⟩=some (.slice (some ad) s.stk.length c1)∧w'.cell? (ad.add (f+j))=some (.int .i64 c)∧w'.cell? ⟨g,1,none⟩=some (.string r.f1)) (first|exact ⟨v0,cb,g1r⟩|exact dZo (by assumption) bel1) ((go_at_call 106;(with_reducible refine (hfc _).mono ?_);rintro e w1 ⟨rfl,bel1⟩))
      go_wp2_with (fail)
      go_roundw
      case rel=>exact ⟨j+1,by omega,by go_num,by simp,hBr.trans (aZo bel1 hBr.size),hid_ (HFT.out.trans (HY.out (by first|rfl|trivial)))⟩
      case measure=>simp [intOf];omega
    ·
     have hje:j=r.f1.size:=by omega
     have hfin:aZA s.stk f r.f1 first r.f1.size 0=true:=by rw [HFT.out,hje,Nat.sub_self];rfl
     have hfv:(if j=0 then (0:Int) else first)=first:=by
      by_cases hj0:j=0
      · rw [if_pos hj0,←HFS.out];unfold aZM;rw [if_neg (by omega)]
      · rw [if_neg hj0]
     rw [hfv]
     clear hfv
     have hge:¬(j:Int)<(r.f1.size:Int):=by omega
     go_wp2_with (fail)
     go_meet
     exact ⟨rfl,hfin,hBr⟩
  case rest =>
   obtain ⟨rfl,hfit,hBv⟩:=hcut
   have hput:=HRES.out.symm.trans (cZw k.dep r x s f HF.out (by rw [HFS.out];exact hfit))
   rw [HFS.out] at hput
   have HP:=hid_ hput
   clear hput hfit HRES HFS
   have hf:f≤s.stk.length:=by have:=HF.out;omega
   have hS4:=hS3.below hBv
   have hX4:=(hBv.block _ (aZd hX3)).trans hX3
   have hg4:=(hBv.block _ (aZd hg3)).trans hg3
   have hK4:=(hBv.block _ (aZd hK3)).trans hK3
   have hB4:Below W.heap.size W wc:=hB3.trans (hBv.mono hB3.size)
   clear hBv hX3 hg3 hK3 hS3 hB3 g1
   clear V
   obtain ⟨v0,-,-,z0,-⟩:=hS4.cells
   rw [e1] at v0
   have hsl:=fun (w:World)=>dZf (A:=A1) k1 f hf w
   have hg42:wc.cell? ⟨g,2,none⟩=some (.string r.f2):=by simp [World.cell?,hg4]
   go_upto_block 2 with (fail)
   obtain ⟨hT,hTB,hTf,hTo⟩:=hS4.take e1 hf
   have hX5:=(hTf _ (aZR hX4 hS4.blk (by decide))).trans hX4
   have hg5:=(hTf _ (aZR hg4 hS4.blk (by decide))).trans hg4
   have hK5:k.blk (wc.setCell ⟨now.p,0,none⟩ (.slice A1 f c1)) tv most:=(hTf _ (aZR hK4 hS4.blk (by decide))).trans hK4
   have lS:=hTB.size
   have lB:=hB4.size
   have fB:∀ j,j<W.heap.size→¬now.own j→(wc.setCell ⟨now.p,0,none⟩ (.slice A1 f c1)).heap[j]?=W.heap[j]?:=fun j hj hn=>(hTf j (fun e=>hn (.inl e))).trans (hB4.block j hj)
   have hB5:Below base W (wc.setCell ⟨now.p,0,none⟩ (.slice A1 f c1)):=(hB4.mono hb).trans hTB
   clear hsl hg42 v0 z0 hS4 hX4 hg4 hK4 hTB hTf hB4
   generalize wc.setCell ⟨now.p,0,none⟩ (.slice A1 f c1)=W5 at *
   have hTn:=hT.stk
   have hl0:(s.stk.take f).length=f:=by rw [List.length_take];omega
   generalize s.stk.take f=stk at hT hl0 HP
   obtain ⟨v0,v1,-,z0,-⟩:=hT.cells
   dsimp only at v0 v1 z0
   clear hTn
   generalize hpt2:r.f2=pt at *
   clear hpt2
   have x0:W5.cell? ⟨W.heap.size,0,none⟩=some (.int .i64 x.f0):=by simp [World.cell?,hX5]
   have x1:W5.cell? ⟨W.heap.size,1,none⟩=some (.int .i64 x.f1):=by simp [World.cell?,hX5]
   go_cut [] (fun wx=>SwEnd W5 base ⟨now.p,.slice A1 f c1,now.vl⟩ pt x stk s.loc s.joined first wx)
   case first =>
    have hp0:=HP0.out
    have hp1:=HP1.out
    have hp2:=HP2.out
    have d0:=bnil hp0
    have d1:(pt.toList == [61])=false:=bneq hp1
    have d2:(pt.toList == [76])=false:=bneq hp2
    have hps:0<pt.size:=by
     by_cases h:pt.size=0
     · exact absurd (by cases pt;rename_i d;simp only [ByteArray.size] at h;rw [Array.size_eq_zero_iff.1 h]) hp0
     · omega
    have bp:=ixs pt 0 (by omega) (by omega)
    have x2:W5.cell? ⟨W.heap.size,2,none⟩=some (.int .i64 x.f2):=by simp [World.cell?,hX5]
    have x3:W5.cell? ⟨W.heap.size,3,none⟩=some (.int .i64 x.f3):=by simp [World.cell?,hX5]
    have hg52:W5.cell? ⟨g,2,none⟩=some (.string pt):=by simp [World.cell?,hg5]
    have hend:=fun (w1:World) (v1:Value) (hR:Row w1 base (fun k=>(Value.slice A1 f c1).ownBlock=some k∨W5.heap.size≤k) v1 (stk++[cZb (bt pt 0) x.f1])) hg hv=>SwEnd.push (x:=x) (first:=first) hT (show putF pt x stk s.loc first=.ok (stk++[cZb (bt pt 0) x.f1],s.loc) by unfold putF;rw [if_neg hp0,if_neg hp1,if_neg hp2]) hR hg hv 0
    have HEND:=hid_ hend
    clear hend
    have hcc:=fun (W:World)=>(hZO (bt pt 0) x.f0 x.f1 x.f2 x.f3 W).mono (R':=fun e w'=>e=.returned (.int .i64 (cZb (bt pt 0) x.f1))∧Below W.heap.size W w') (fun e w' h=>⟨h.1,h.2▸aZa (Below.refl _ _) _⟩)
    generalize cZb (bt pt 0) x.f1=y at HEND hcc
    go_wp2_with (fail)
    go_region_law (first
     | ((go_simp;go_at_call 107;(with_reducible refine (hcc W5.drew).mono ?_);rintro e w8 ⟨rfl,bel8⟩;have bel9:=aZo bel8 (Nat.le_refl _);have hT8:=hT.below bel9;have v8:=(bel9.cell (aZG v0)).trans v0;have v9:∀ o:Obj,(w8.alloc o).cell? ⟨now.p,0,none⟩=some (Value.slice A1 f c1):=fun o=>((aZa (Below.refl w8.heap.size w8) o).cell (aZG v8)).trans v8))
     | (refine Kd.R_append_step (Kd.int .i64) (w0:=w8) base (by rfl) (.tmp 77) (.tmp 83) 51 73 (.int .i64 0) 8 rfl Try.underlying51 info73 rfl (by decide) (by omega) (.slice A1 f c1) stk y [.int .i64 y] (fun k=>(Value.slice A1 f c1).ownBlock=some k∨W5.heap.size≤k) (fun _=>False) rfl rfl rfl (fun _ hk=>hk.elim) (fun _ hk=>.inr (Nat.le_trans bel9.size hk)) (Kd.R_mono hT8.stk (fun _ hk=>.inl hk)) (Below.refl _ _) (Nat.le_trans hb (Nat.le_trans lB (Nat.le_trans lS bel9.size))) (by omega) ?_;intro vv w1 hrow1 hb1 hg1 hv1;obtain ⟨A2,c2,rfl⟩:=Kd.R_slice hrow1;have pc:=dZ0 hT8 hg1;dsimp only at pc;obtain ⟨u0,u1⟩:=pc))
    all_goals
     go_wp2_with (fail)
     go_meet
     have h:=HEND.out w1 _ hrow1 (cZl (aZ0 bel9 _) hg1) (hv1.imp id (fun ⟨b,h1,h2⟩=>⟨b,h1,Nat.le_trans bel9.size h2⟩))
     rw [show (stk++[y]).length=f+1 by rw [List.length_append,hl0];rfl] at h
     exact h
   case rest =>
    clear v0 v1 z0 x0 x1 hg5
    obtain ⟨h',stk2,loc2,hp,hl2,hl3,hpe,hI,ho,hBw,hfw⟩:=hcut
    have HP2:=hid_ (HP.out.trans (by rw [hp]))
    clear HP hp
    have hX6:wc.heap[W.heap.size]?=some (.cells #[.int .i64 x.f0,.int .i64 x.f1,.int .i64 x.f2,.int .i64 x.f3] 66 (0,0)):=(hfw _ (aZd hX5) (own_ne_types hT hX5 (by decide) (by decide))).trans hX5
    have hK6:k.blk wc tv most:=(hfw _ (aZd hK5) (own_ne_types hT hK5 (by decide) (by decide))).trans hK5
    have hB6:Below base W wc:=hB5.trans hBw
    have FR:Hid (∀ j,j<W.heap.size→¬now.own j→wc.heap[j]?=W.heap[j]?):=hid_ (fun j hj hn=>(hfw j (Nat.lt_of_lt_of_le hj (Nat.le_trans lB lS)) (fun h=>hn (hTo j h))).trans (fB j hj hn))
    have OW:Hid (∀ j,h'.own j→now.own j∨W.heap.size≤j):=hid_ (fun j hj=>(ho j hj).elim (fun h=>.inl (hTo j h)) (fun h=>.inr (Nat.le_trans (Nat.le_trans lB lS) h)))
    clear hX5 hK5 hBw hfw ho hT fB hTo hB5
    obtain ⟨A7,c7,e7,-,-⟩:=Kd.R_reads hI.stk
    obtain ⟨w0,-,-,-,-⟩:=hI.cells
    rw [e7,hpe] at w0
    dsimp only at e7 w0
    obtain ⟨-,-,-,-,-,d5,-⟩:=Wk.cells hK6
    have y0:wc.cell? ⟨W.heap.size,0,none⟩=some (.int .i64 x.f0):=by simp [World.cell?,hX6]
    by_cases hov:k.dep<stk2.length
    ·
     have hE:=fun (w':World)=>StepEnd.err (W:=W) (w':=w') (base:=base) (now:=now) (HP2.out.trans (cZH hov))
     have HE:=hid_ hE
     clear hE
     have dov:decide ((stk2.length:Int) > k.dep)=true:=decide_eq_true hov
     go_wp2_with (fail)
     go_quiet (fail)
     go_wp2_with (fail)
     go_ret
     exact HE.out _ (aZb hB6 nq)
    ·
     have dov:decide ((stk2.length:Int) > k.dep)=false:=decide_eq_false hov
     by_cases hst:x.f0=36∧0<stk2.length
     ·
      have hE:=fun (w':World)=>StepEnd.err (W:=W) (w':=w') (base:=base) (now:=now) (HP2.out.trans (cZG hov hst.1 hst.2))
      have HE:=hid_ hE
      have d36:(x.f0 == 36)=true:=by rw [beq_iff_eq];exact hst.1
      have dle:decide ((stk2.length:Int) > 0)=true:=decide_eq_true (by have:=hst.2;omega)
      have dle2:decide (0<stk2.length)=true:=decide_eq_true hst.2
      have dle3:0<stk2.length:=hst.2
      clear hE hst hov
      go_wp2_with (fail)
      go_quiet (fail)
      go_wp2_with (fail)
      go_ret
      exact HE.out _ (aZb hB6 nq)
     ·
      have hE:=HP2.out.trans (dZ6 hov hst)
      have HE:=hid_ hE
      clear hE
      have fin:∀ (nq:Nat),StepEnd W base now res (.returned (.int .i64 0)) (wc.drewN nq):=fun nq=>by
       rw [HE.out]
       exact ⟨rfl,aZb hB6 nq,h',hpe,hI.keep (fun _ _ _=>rfl),OW.out,FR.out⟩
      have FI:=hid_ fin
      clear fin
      by_cases h36:x.f0=36
      ·
       have hz:stk2.length=0:=by
        by_cases h:stk2.length=0
        · exact h
        · exact absurd ⟨h36,by omega⟩ hst
       have d36:(x.f0 == 36)=true:=by rw [beq_iff_eq];exact h36
       have dle:decide ((stk2.length:Int) > 0)=false:=decide_eq_false (by omega)
       have dle2:decide (0<stk2.length)=false:=decide_eq_false (by omega)
       clear h36 hz hst hov
       go_wp2_with (fail)
       go_quiet (fail)
       go_wp2_with (fail)
       go_ret
       exact FI.out _
      ·
       have d36:(x.f0 == 36)=false:=by rw [beq_eq_false_iff_ne];exact h36
       clear h36 hst hov
       go_wp2_with (fail)
       go_quiet (fail)
       go_wp2_with (fail)
       go_ret
       exact FI.out _
theorem step_any (k:Wk) (W:World) (tv:Value) (most:Int) (base:Nat) (h:k.blk W tv most) (hR:Kd.C k165 W k.ar 37 rowsL) (now:HS) (s:St) (hs:IsSt W base now s) (x:S66) (h1:1≤x.f0) (h2:x.f0≤36)
 (l1:s.stk.length≤4096) (l2:s.loc.length≤4096) (hA:x.f0=31∨x.f0=32→0≤x.f1∧x.f1<s.loc.length) (hb:base≤W.heap.size) :
 Calls Try.prog 95 #[.pointer (some ⟨k.g,0,none⟩),.pointer (some ⟨now.p,0,none⟩),.agg #[.int .i64 x.f0,.int .i64 x.f1,.int .i64 x.f2,.int .i64 x.f3]] W (StepEnd W base now (aZ2 k.dep (aZg rowsL x.f0) x s)):=by
 by_cases hu:s.stk.length<(aZg rowsL x.f0).f1.size
 · exact hZU k W tv most base h hR now s hs x h1 h2 l1 l2 hA hb hu
 obtain ⟨f,hf⟩:∃ f:Nat,s.stk.length=f+(aZg rowsL x.f0).f1.size:=⟨s.stk.length - (aZg rowsL x.f0).f1.size,by omega⟩
 cases hfit:aZA s.stk f (aZg rowsL x.f0).f1 (aZM s.stk f (aZg rowsL x.f0).f1.size) (aZg rowsL x.f0).f1.size 0 with
 | false=>exact step_kind k W tv most base h hR now s hs x h1 h2 l1 l2 hA hb f hf hfit
 | true =>
  by_cases hp0:(aZg rowsL x.f0).f2=⟨#[]⟩
  ·
   by_cases h31:x.f0=31
   · exact step_putA k W tv most base h hR now s hs x h1 h2 l1 l2 hA hb f hf hfit hp0 h31
   · exact step_putB k W tv most base h hR now s hs x h1 h2 l1 l2 hA hb f hf hfit hp0 h31
  by_cases hp1:(aZg rowsL x.f0).f2=⟨#[61]⟩
  · exact step_putC k W tv most base h hR now s hs x h1 h2 l1 l2 hA hb f hf hfit hp1
  by_cases hp2:(aZg rowsL x.f0).f2=⟨#[76]⟩
  ·
   by_cases hz:s.loc.getD x.f1.toNat 0=0
   · exact step_putD k W tv most base h hR now s hs x h1 h2 l1 l2 hA hb f hf hfit hp2 hz
   · exact step_putE k W tv most base h hR now s hs x h1 h2 l1 l2 hA hb f hf hfit hp2 hz
  exact step_putF k W tv most base h hR now s hs x h1 h2 l1 l2 hA hb f hf hfit hp0 hp1 hp2
end Go.Proofs.Ytbnplhmmbnmagaa.D
