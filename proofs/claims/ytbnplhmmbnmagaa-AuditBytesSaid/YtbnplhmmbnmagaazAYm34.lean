/- The document's audit: its walk over all places. -/
import Derived.Test.YtbnplhmmbnmagaazAYm33
import Derived.Test.YtbnplhmmbnmagaazAYm32
import Derived.Test.YtbnplhmmbnmagaazAYm30
import Derived.Test.YtbnplhmmbnmagaazAYm4
set_option maxHeartbeats 4000000
set_option maxRecDepth 100000
set_option linter.unusedVariables false
set_option linter.unusedSimpArgs false
namespace Go.Proofs.Ytbnplhmmbnmagaa.D
open Go.RowKit Go.Proofs.YtbnplhmmbnmagaaW.PrintWords Go.Proofs.YtbnplhmmbnmagaaW.PrintLast Go.Proofs.YtbnplhmmbnmagaaW.PrintMore Go.Proofs.Ytbnplhmmbnmagaa.All
theorem walk_runs (w:World) (A0 A1 A2 A3 A4:Option Addr) (c0 c1 c2 c3 c4:Nat) (g:Pg) (hI:InPg w A0 A1 A2 A3 A4 c0 c1 c2 c3 c4 g) (hD:¬aZF g.T.length g.N.length g.S.length g.M.length g.C g.dep g.loc) (hn:¬g.C.length=0) :
 Calls Try.prog 31 #[cZs A0 A1 A2 A3 A4 c0 c1 c2 c3 c4 g] w (dZY w (cZr g)):=by
 have g0:¬ 32768<g.C.length:=fun e=>hD (.inl e)
 have g1:¬g.dep<0:=fun e=>hD (.inr (.inl e))
 have g2:¬ 128<g.dep:=fun e=>hD (.inr (.inr (.inl e)))
 have g3:¬g.loc<0:=fun e=>hD (.inr (.inr (.inr (.inl e))))
 have g4:¬ 1024<g.loc:=fun e=>hD (.inr (.inr (.inr (.inr (.inl e)))))
 have g5:¬ 4096<g.T.length+g.N.length+g.S.length+g.M.length:=fun e=>hD (.inr (.inr (.inr (.inr (.inr e)))))
 have d0:decide ((g.C.length:Int) > 32768)=false:=decide_eq_false (by omega)
 have d1:decide (g.dep<0)=false:=decide_eq_false (by omega)
 have d2:decide (g.dep > 128)=false:=decide_eq_false (by omega)
 have d3:decide (g.loc<0)=false:=decide_eq_false (by omega)
 have d4:decide (g.loc > 1024)=false:=decide_eq_false (by omega)
 have d5:decide ((g.T.length:Int)+(g.N.length:Int)+(g.S.length:Int)+(g.M.length:Int) > 4096)=false:=decide_eq_false (by omega)
 have e0:((g.C.length:Int) == 0)=false:=by rw [beq_eq_false_iff_ne];omega
 have G:=hid_ (And.intro (show 0<g.C.length∧g.C.length≤32768 by omega) (And.intro (show 0≤g.dep∧g.dep≤128 by omega) (show 0≤g.loc∧g.loc≤1024 by omega)))
 have L:=hid_ (show g.T.length≤4096∧g.N.length≤4096∧g.S.length≤4096∧g.M.length≤4096 by omega)
 have HD:=hid_ (And.intro hD hn)
 obtain ⟨p0,p1,p2⟩:=cZt w (.cells #[.slice A0 g.T.length c0,.slice A1 g.N.length c1,.slice A2 g.S.length c2,.slice A3 g.M.length c3,.slice A4 g.C.length c4,.int .i64 g.dep,.int .i64 g.loc] 28) (rdO 0 0)
 have hST:StL w ((w.alloc (.cells #[.slice A0 g.T.length c0,.slice A1 g.N.length c1,.slice A2 g.S.length c2,.slice A3 g.M.length c3,.slice A4 g.C.length c4,.int .i64 g.dep,.int .i64 g.loc] 28)).alloc (rdO 0 0)) w.heap.size A0 A1 A2 A3 A4 c0 c1 c2 c3 c4 g:=⟨p2,p0,hI.below p2⟩
 have HI:=hid_ hI
 clear p0 p2 hI g0 g1 g2 g3 g4 g5 hD hn
 unfold cZs
 go_enter Try.func31,Try.ntmps31
 go_upto_region 1 with (fail)
 generalize (w.alloc (.cells #[.slice A0 g.T.length c0,.slice A1 g.N.length c1,.slice A2 g.S.length c2,.slice A3 g.M.length c3,.slice A4 g.C.length c4,.int .i64 g.dep,.int .i64 g.loc] 28)).alloc (rdO 0 0)=W1 at hST p1 ⊢
 have HST:=hid_ hST
 have HF:=hid_ p1
 clear p1 hST
 obtain ⟨x0,x1,x2,x3,x4,x5,x6⟩:=cZl HST.out.box
 obtain ⟨q0,q1,q2,q3⟩:=L.out
 go_upto_region 6 with (fail)
 clear d0 d1 d2 d3 d4 d5 e0 q0 q1 q2 q3 L
 go_upto_region 8 with ((with_reducible refine aZ2 (N:=69) rfl ?_);refine Kd.S_make kIn (w0:=W1) w.heap.size 23 (N:=69) rfl rfl 25 (.tmp 68) (.tmp 68) rfl (g.C.length:Int) rfl rfl Try.underlying25 (.slice none 0 0) 24 info23_ rfl (by decide) (by omega) [] (ok:=fun k=>W1.heap.size≤k) (okp:=fun _=>False) ⟨.slice none 0 0,rfl,Kd.R_nil _ _ _ _ _⟩ (fun _ h=>h.elim) (Nat.le_refl _) (by omega) (by rw [Int.toNat_natCast];have:=G.out;omega) (Below.refl _ _) HST.out.below.size ?_;intro vi W2 hS hb2 hg2 _;rw [Int.toNat_natCast] at hS)
 have hb3:Below W1.heap.size W1 W2:=⟨hg2.os,hg2.tape,hg2.output,hg2.size,fun k hk=>hg2.block k hk (by simp)⟩
 obtain ⟨gi,ci,hvi,-,-,-⟩:=Kd.S_form hS (by simp;exact G.out.1.1)
 rw [List.length_replicate] at hvi
 subst hvi
 have HINV:=hid_ (inv_start (HST.out.next hb3) (aZj HF.out hb3) W1.heap.size hS HD.out.1 HD.out.2)
 clear x0 x1 x2 x3 x4 x5 x6 hS hb2 hg2 hb3 HD HST HF
 go_wp2_with (fail)
 go_loopw [6,7,8] (fun s6 s7 s8 wr=>∃ (i:Nat) (I:Nat→Prop) (into:List (List Int)) (ahead after:List Pr),s8=.int .i64 i∧Inv w wr w.heap.size (w.heap.size+1) A0 A1 A2 A3 A4 c0 c1 c2 c3 c4 g i I (.slice (some ⟨gi,0,none⟩) g.C.length ci) s6 s7 into ahead after) (fun _ _ s8 _=>g.C.length - (intOf s8).toNat)
 case atStart=>exact ⟨0,_,_,_,_,rfl,HINV.out⟩
 case round =>
  obtain ⟨i,I,into,ahead,after,rfl,hinv⟩:=hrel
  have H:=hid_ hinv
  clear hinv HINV
  obtain ⟨x0,x1,x2,x3,x4,x5,x6⟩:=cZl H.out.sw.st.box
  by_cases hlt:i<g.C.length
  ·
   have d0:decide ((i:Int)<(g.C.length:Int))=true:=decide_eq_true (by omega)
   have hn:=G.out.1.2
   have hd:g.C.length - i=(g.C.length - i - 1)+1:=by omega
   have hres:=H.out.res
   rw [hd,refL] at hres
   have HRES:=hid_ hres
   clear hd hres
   obtain ⟨ad,ha,k0,k1,k2,k3⟩:=eZd H.out.sw.st.pg.C (i:Int) (by omega) (by omega)
   rw [Int.toNat_natCast] at k0 k1 k2 k3
   generalize hx:aZg g.C (i:Int)=x at k0 k1 k2 k3
   have HX:=hid_ hx
   clear hx
   subst ha
   go_upto_region 12 with (fail)
   have hA:=heap_alloc_new wr (.cells #[.int .i64 x.f0,.int .i64 x.f1,.int .i64 x.f2,.int .i64 x.f3] 66)
   have hb:=aZb (Below.refl wr.heap.size wr) (.cells #[.int .i64 x.f0,.int .i64 x.f1,.int .i64 x.f2,.int .i64 x.f3] 66)
   have HH:=hid_ (H.out.next hb)
   clear H x0 x1 x2 x3 x4 x5 x6 k0 k1 k2 k3 hb
   generalize wr.alloc (.cells #[.int .i64 x.f0,.int .i64 x.f1,.int .i64 x.f2,.int .i64 x.f3] 66)=W3 at hA HH ⊢
   generalize wr.heap.size=bx at hA ⊢
   have HA:=hid_ hA
   clear hA
   obtain ⟨x0,x1,x2,x3,x4,x5,x6⟩:=cZl HH.out.sw.st.box
   go_wp2_with (fail)
   clear x0 x1 x2 x3 x4 x5 x6
   refine (show Calls _ _ _ _ _ from early_any W3 A0 A1 A2 A3 (some ad) c0 c1 c2 c3 c4 g.T.length g.N.length g.S.length g.M.length g.C g.dep g.loc i HH.out.sw.st.pg.C hlt hn).mono ?_
   rintro e W4 ⟨rfl,bel⟩
   have H4:=hid_ (HH.out.next bel)
   have HA4:=hid_ (aZj HA.out bel)
   clear HH HA bel
   by_cases hf:bZx (KP g) i≠0
   ·
    have hres:=HRES.out
    rw [if_pos hf] at hres
    generalize bZx (KP g) i=fe at hf hres
    have HR:=hid_ hres
    clear hres HRES
    go_upto_region 14 with (fail)
    refine walk_r14 (by kernel_rfl) H4.out.sw.fx ?_
    intro _ _ _
    dsimp only
    go_step
    go_step
    (try go_step)
    refine bodyPost_ret (results31 _ _ (w.heap.size+1) fe i (.slice none 0 0) ?_ ?_ (setRow_heap _ _ _ _ _ _ H4.out.sw.fx)) ?_ ?_
    · kernel_rfl
    · kernel_rfl
    · kernel_rfl
    · exact cZK H4.out.sw.st.below (by omega) HR.out
   ·
    have hf0:=Classical.not_not.1 hf
    have hres:=HRES.out
    rw [if_neg hf] at hres
    have HR:=hid_ hres
    have HF0:=hid_ hf0
    rw [hf0]
    clear hres HRES hf hf0
    obtain ⟨x0,x1,x2,x3,x4,x5,x6⟩:=cZl H4.out.sw.st.box
    go_upto_region 16 with ((with_reducible refine aZ2 (N:=92) rfl ?_);refine Kd.R_make (Kd.int .i64) (w0:=W4) W4.heap.size 3 (N:=92) rfl rfl 23 (.tmp 91) (.tmp 91) rfl g.loc rfl rfl Try.underlying23 (.int .i64 0) 8 info3 rfl (by decide) (by omega) 0 (ok:=fun _=>True) (okp:=fun _=>False) rfl (fun _ h=>h.elim) trivial (by have:=G.out;omega) (by have:=G.out;omega) (Below.refl _ _) (Nat.le_refl _) ?_;intro vl W5 hrl hb5 hg5 _;obtain ⟨Al,cl,hvl⟩:=Kd.R_slice hrl;rw [List.length_replicate] at hvl;subst hvl)
    have hZ:=heap_alloc_new W5 (.cells #[.slice none 0 0,.slice Al g.loc.toNat cl] 94)
    have hbb:=aZb (Below.refl W5.heap.size W5) (.cells #[.slice none 0 0,.slice Al g.loc.toNat cl] 94)
    have hB6:=hb5.trans (hbb.mono hb5.size)
    have hrl6:=new_ok (I:=I) (Kd.R_below hrl hbb) H4.out.sw.lt H4.out.sw.st.below.size
    have hbs:=hb5.size
    clear hrl hb5 hg5 hbb x0 x1 x2 x3 x4 x5 x6
    generalize W5.alloc (.cells #[.slice none 0 0,.slice Al g.loc.toNat cl] 94)=W6 at hZ hB6 hrl6 ⊢
    generalize W5.heap.size=bs at hZ hbs ⊢
    have HBS:=hid_ hbs
    obtain ⟨hgood,hfrom⟩:=from_good H4.out G.out.2.1.2
    have HGD:=hid_ hgood
    have HFG:=hid_ hfrom
    clear hgood hfrom hbs
    have z0:W6.cell? ⟨bs,0,none⟩=some (.slice none 0 0):=by simp [World.cell?,hZ]
    have z1:W6.cell? ⟨bs,1,none⟩=some (.slice Al g.loc.toNat cl):=by simp [World.cell?,hZ]
    have zf:=froz hZ
    have HZ:=hid_ (And.intro hZ (And.intro hB6 hrl6))
    clear hZ hB6 hrl6
    go_upto_if 95 with (fail)
    go_cut [] (fun wx=>SBox w wx I bs (dZh g.loc after i)∧Below W4.heap.size W4 wx)
    case first =>
     by_cases hi0:i=0
     ·
      have hfr:dZh g.loc after i=([],List.replicate g.loc.toNat 0):=if_pos hi0
      have hge:¬(0:Int)<(i:Int):=by omega
      have hge2:¬ 0<i:=by omega
      have HFR:=hid_ hfr
      clear hi0 hfr
      go_wp2_with (fail)
      go_meet
      rw [HFR.out]
      have el:(([],List.replicate g.loc.toNat (0:Int)):Pr).2.length=g.loc.toNat:=List.length_replicate
      refine ⟨⟨none,0,Al,cl,?_,Kd.R_nil _ _ _ _ _,?_⟩,HZ.out.2.1⟩
      · rw [el];exact HZ.out.1
      · rw [el];exact HZ.out.2.2
     ·
      obtain ⟨p,hp⟩:∃ p,i=p+1:=⟨i - 1,by omega⟩
      have hfr:dZh g.loc after i=after.getD p ([],[]):=by unfold dZh;rw [if_neg hi0,hp];rfl
      have hla:=H4.out.la
      obtain ⟨ad7,c7,Aa,ca,Ab,cb,hu7,k0,k1,r1,r2⟩:=st_at' (Kd.R_below H4.out.sw.after HZ.out.2.1) (fun k hk=>hk.1) p (by omega)
      obtain ⟨s0,hs0⟩:∃ s0,s0=dZh g.loc after i:=⟨_,rfl⟩
      rw [←hfr,←hs0] at k0 k1 r1 r2
      rw [hla] at hu7
      subst hu7
      have hgt:(0:Int)<(i:Int):=by omega
      have hgt2:0<i:=by omega
      have ew:IntKind.i64.wrap ((i:Int) - 1)=(p:Int):=by rw [show (i:Int) - 1=(p:Int) by omega];exact IntWalk.i64_in _ ⟨by omega,by omega⟩
      have e2:wrap64 ((i:Int) - 1)=(p:Int):=by unfold wrap64;omega
      have i0:(0:Int)≤(p:Int):=by omega
      have i1:(p:Int)<(i:Int):=by omega
      have i2:p<i:=by omega
      have HRR:=hid_ (And.intro r1 r2)
      have HS00:=hid_ hs0
      clear hi0 hfr hla r1 r2 hp hs0
      go_wp2_with (fail)
      go_meet
      rw [←HS00.out]
      exact ⟨SBox.set2 HZ.out.1 HRR.out.1 HRR.out.2,(HZ.out.2.1.setCell HBS.out _).setCell HBS.out _⟩
    case rest =>
    obtain ⟨hsb,hbw⟩:=hcut
    have HS0:=hid_ (And.intro hsb hbw)
    clear hsb hbw HZ z0 z1 zf W6 W5
    obtain ⟨l,hl⟩:∃ l,l=into.getD i []:=⟨_,rfl⟩
    have hll:l.length≤i:=by rw [hl];exact H4.out.inlen i
    have hlq:∀ q∈l,0≤q∧q<i:=by rw [hl];exact H4.out.inlt i
    have hres:=HR.out
    rw [←hl] at hres
    obtain ⟨s0,hs0⟩:∃ s0,s0=dZh g.loc after i:=⟨_,rfl⟩
    have hS0:=HS0.out
    have hG0:=HFG.out
    rw [←hs0] at hS0 hG0
    rw [show (KP g).loc=g.loc from rfl,←hs0] at hres
    have HLE:=hid_ hl
    have HLQ:=hid_ hlq
    have HR:=hid_ hres
    have HS0:=hid_ (And.intro hS0 hG0)
    clear hl hlq hres hS0 hG0 hs0 HFG
    go_upto_block 2 with (fail)
    go_cut [] (fun wx=>∃ s,dZB after l s0=some s∧gZj g s∧SBox w wx I bs s∧Below W4.heap.size W4 wx)
    case first =>
     go_wp2_with (fail)
     go_loopw [12] (fun s12 wx=>∃ (kk:Nat) (s:Pr),s12=.int .i64 kk∧kk≤l.length∧SBox w wx I bs s∧gZj g s∧dZB after l s0=dZB after (l.drop kk) s∧Below W4.heap.size W4 wx) (fun s12 _=>l.length - (intOf s12).toNat)
     case atStart=>exact ⟨0,s0,rfl,Nat.zero_le _,HS0.out.1.1,HS0.out.2,rfl,HS0.out.1.2⟩
     case round =>
      obtain ⟨kk,s,rfl,hkk,hsb,hgs,hjo,hbw⟩:=hrel
      have H:=hid_ (H4.out.next hbw)
      obtain ⟨Ar,cr,ci0,hcr,hCl⟩:=into_at' H.out.sw.into i hlt
      rw [←HLE.out] at ci0 hcr hCl
      have i0:(0:Int)≤(i:Int):=by omega
      have i1:(i:Int)<(g.C.length:Int):=by omega
      by_cases hkl:kk<l.length
      ·
       obtain ⟨ar,har,cq⟩:=Kd.at_int hCl (kk:Int) (by omega) (by omega)
       subst har
       rw [Int.toNat_natCast] at cq
       obtain ⟨hq0,hq1⟩:=HLQ.out _ (rd_mem hkl)
       obtain ⟨p,hp⟩:∃ p:Nat,rd l (kk:Int)=p:=⟨(rd l (kk:Int)).toNat,by omega⟩
       obtain ⟨hdr,-⟩:=drop_at hkl hp
       rw [hp] at cq hq0 hq1
       obtain ⟨ad7,c7,Aa,ca,Ab,cb,hu7,k0,k1,r1,r2⟩:=st_at' H.out.sw.after (fun k hk=>hk.1) p (by rw [H4.out.la];omega)
       rw [H4.out.la] at hu7
       subst hu7
       have hgp:=HGD.out p (by omega)
       obtain ⟨t,ht⟩:∃ t,t=after.getD p ([],[]):=⟨_,rfl⟩
       rw [←ht] at k0 k1 r1 r2 hgp
       have hat:atP after (p:Int)=t:=by unfold atP;rw [Int.toNat_natCast,ht]
       rw [hdr,dZB,hat] at hjo
       obtain ⟨B1,d1,B2,d2,hbs,q1,q2⟩:=hsb
       have HJ:=hid_ (And.intro hjo (And.intro hgs hgp))
       have HR12:=hid_ (And.intro r1 (And.intro r2 (And.intro q1 (And.intro q2 hbs))))
       have HBW:=hid_ hbw
       have HHL:=hid_ (And.intro hdr (And.intro hp ht))
       have j0:(0:Int)≤(kk:Int):=by omega
       have j1:(kk:Int)<(l.length:Int):=by omega
       have p2:p<i:=by omega
       clear hjo hgs hgp r1 r2 q1 q2 hbs hbw hdr hp ht hat hCl
       go_upto_region 22 with (fail)
       have hT:=heap_alloc_new wr (.cells #[.slice Aa t.1.length ca,.slice Ab t.2.length cb] 94)
       have hb:=aZb (Below.refl wr.heap.size wr) (.cells #[.slice Aa t.1.length ca,.slice Ab t.2.length cb] 94)
       have hBS:=aZj HR12.out.2.2.2.2 hb
       clear ci0 cq k0 k1 H
       generalize wr.alloc (.cells #[.slice Aa t.1.length ca,.slice Ab t.2.length cb] 94)=V at hT hb hBS ⊢
       generalize wr.heap.size=bt at hT ⊢
       have y0:V.cell? ⟨bs,0,none⟩=some (.slice B1 s.1.length d1):=by simp [World.cell?,hBS]
       have y1:V.cell? ⟨bt,0,none⟩=some (.slice Aa t.1.length ca):=by simp [World.cell?,hT]
       have HV:=hid_ (And.intro hT (And.intro hb hBS))
       clear hT hb hBS
       go_wp2_with (fail)
       clear y0 y1
       refine (show Calls _ _ _ _ _ from berthref21_sameInts.calls (s.1.length+1) B1 d1 s.1 Aa ca t.1 _ V (Kd.C_below (Kd.R_reads' HR12.out.2.2.1).2.2 HV.out.2.1) (Kd.R_reads' HR12.out.2.2.1).2.1 (Kd.C_below (Kd.R_reads' HR12.out.1).2.2 HV.out.2.1) (Kd.R_reads' HR12.out.1).2.1 (dZK s.1 t.1 (by have:=HJ.out.2.1.2;omega) _ (Nat.lt_succ_self _))).mono ?_
       rintro e V2 ⟨rfl,hdw⟩
       have hb2:=Drawn0.below_ hdw
       have HV2:=hid_ (And.intro (aZj HV.out.1 hb2) (And.intro (HV.out.2.1.trans (hb2.mono HV.out.2.1.size)) (aZj HV.out.2.2 hb2)))
       clear hdw hb2 HV
       by_cases hst:s.1=t.1
       ·
        have hjo:=HJ.out.1
        rw [if_pos hst] at hjo
        have HJO:=hid_ hjo
        rw [decide_eq_true hst]
        clear hjo hst
        have y0:V2.cell? ⟨bs,1,none⟩=some (.slice B2 s.2.length d2):=by simp [World.cell?,HV2.out.2.2]
        have y1:V2.cell? ⟨bt,1,none⟩=some (.slice Ab t.2.length cb):=by simp [World.cell?,HV2.out.1]
        go_wp2_with (fail)
        clear y0 y1
        refine (show Calls _ _ _ _ _ from joined_any V2 (.slice B2 s.2.length d2) Ab cb s.2 t.2 _ _ (Kd.R_below HR12.out.2.2.2.1 HV2.out.2.1) (Kd.C_below (Kd.R_reads' HR12.out.2.1).2.2 HV2.out.2.1) (Kd.R_reads' HR12.out.2.1).2.1 (HJ.out.2.1.1.1.trans HJ.out.2.2.1.1.symm) (by have h1:=HJ.out.2.1.1.1;have:=G.out;omega)).mono ?_
        rintro e V3 ⟨v,rfl,bel3,hv⟩
        have hbw3:Below W4.heap.size W4 V3:=HBW.out.trans ((HV2.out.2.1.trans (bel3.mono HV2.out.2.1.size)).mono HBW.out.size)
        have hv3:(Kd.int .i64).R 3 V3 w.heap.size (fun k=>¬I k) v (aZD s.2 t.2):=by
         rcases hv with ⟨rfl,hm⟩|hv
         ·
          rw [hm]
          exact Kd.R_below (Kd.R_below HR12.out.2.2.2.1 HV2.out.2.1) bel3
         ·
          have hsz:W4.heap.size≤V2.heap.size:=Nat.le_trans HBW.out.size HV2.out.2.1.size
          exact new_ok hv (fun k hk=>Nat.lt_of_lt_of_le (H4.out.sw.lt k hk) hsz) (Nat.le_trans H4.out.sw.st.below.size hsz)
        have hs3:(Kd.int .i64).R 3 V3 w.heap.size (fun k=>¬I k) (.slice B1 s.1.length d1) s.1:=Kd.R_below (Kd.R_below HR12.out.2.2.1 HV2.out.2.1) bel3
        have hbs3:=aZj HV2.out.2.2 bel3
        clear hv bel3
        obtain ⟨A9,c9,rfl⟩:=Kd.R_slice hv3
        have y0:V3.cell? ⟨bs,1,none⟩=some (.slice B2 s.2.length d2):=by simp [World.cell?,hbs3]
        have yf:=froz hbs3 1
        have HE:=hid_ (And.intro hv3 (And.intro hs3 (And.intro hbs3 hbw3)))
        have hkl2:=hkl
        clear hv3 hs3 hbs3 hbw3
        go_wp2_with (fail)
        go_roundw
        case rel=>exact ⟨kk+1,(s.1,aZD s.2 t.2),by go_num,hkl2,SBox.set1 HE.out.2.2.1 HE.out.2.1 HE.out.1,gZw HJ.out.2.1 HJ.out.2.2,HJO.out,HE.out.2.2.2.setCell HBS.out _⟩
        case measure=>simp [intOf];omega
       ·
        have hjo:=HJ.out.1
        rw [if_neg hst] at hjo
        have hres:=HR.out
        rw [hjo] at hres
        have HRR:=hid_ hres
        rw [decide_eq_false hst]
        have hfx:=aZj (aZj H4.out.sw.fx HBW.out) HV2.out.2.1
        have hbwl:=H4.out.sw.st.below.trans ((HBW.out.trans (HV2.out.2.1.mono HBW.out.size)).mono H4.out.sw.st.below.size)
        have HFX:=hid_ (And.intro hfx hbwl)
        clear hjo hst hres hfx hbwl
        go_upto_region 24 with (fail)
        refine walk_r24 (by kernel_rfl) HFX.out.1 ?_
        intro _ _
        dsimp only
        go_step
        go_step
        (try go_step)
        refine bodyPost_ret (results31 _ _ (w.heap.size+1) 218 i (.slice none 0 0) ?_ ?_ (setRow_heap _ _ _ _ _ _ HFX.out.1)) ?_ ?_
        · kernel_rfl
        · kernel_rfl
        · kernel_rfl
        · exact cZK HFX.out.2 (by omega) HRR.out
      ·
       have hke:kk=l.length:=by omega
       have hge:¬(kk:Int)<(l.length:Int):=by omega
       have HJ:=hid_ (And.intro hjo (And.intro hgs (And.intro hsb (And.intro hbw hke))))
       clear hjo hgs hsb hbw hke hkl
       go_wp2_with (fail)
       go_meet
       exact ⟨s,by rw [HJ.out.1,HJ.out.2.2.2.2,List.drop_length];rfl,HJ.out.2.1,HJ.out.2.2.1,HJ.out.2.2.2.1⟩
    case rest =>
    obtain ⟨s,hjs,hgs,hsb,hbw⟩:=hcut
    obtain ⟨V4,hV4⟩:∃ V4,V4=wc:=⟨_,rfl⟩
    subst hV4
    have hres:=HR.out
    rw [hjs] at hres
    dsimp only at hres
    obtain ⟨f1,f2,f3⟩:=form_behind HF0.out
    have hxk:aZg (KP g).C (i:Int)=x:=HX.out
    rw [hxk] at hres f1 f2 f3
    have hA5:=aZj HA4.out hbw
    have H5:=hid_ (H4.out.next hbw)
    obtain ⟨B1,d1,B2,d2,hbs,q1,q2⟩:=hsb
    obtain ⟨a0,a1,a2,a3⟩:=cells4 hA5
    obtain ⟨z0,z1⟩:V4.cell? ⟨bs,0,none⟩=some (.slice B1 s.1.length d1)∧V4.cell? ⟨bs,1,none⟩=some (.slice B2 s.2.length d2):=by simp [World.cell?,hbs]
    have HA5:=hid_ hA5
    have HSB:=hid_ (And.intro hbs (And.intro q1 q2))
    have HGS:=hid_ hgs
    have HRES:=hid_ hres
    have HFF:=hid_ (And.intro f1 (And.intro f2 f3))
    clear HS0 HR hjs hgs hbs q1 q2 hres f1 f2 f3 hxk hA5 hbw
    go_wp2_with (fail)
    clear a0 a1 a2 a3 z0 z1
    refine (show Calls _ _ _ _ _ from behind_any V4 x (.slice B1 s.1.length d1) (.slice B2 s.2.length d2) s.1 s.2 _ _ HSB.out.2.1 HSB.out.2.2 HFF.out.1 HFF.out.2.1 (fun h=>by have:=HFF.out.2.2 h;have h2:=HGS.out.1.1;have h3:(KP g).loc=g.loc:=rfl;omega) (by have:=HGS.out.2;omega) (by have h2:=HGS.out.1.1;have:=G.out;omega)).mono ?_
    rintro e W7 ⟨bel,hbe⟩
    have H7:=hid_ (H5.out.next bel)
    have HA7:=hid_ (aZj HA5.out bel)
    have HSB7:=hid_ (And.intro (aZj HSB.out.1 bel) (And.intro (Kd.R_below HSB.out.2.1 bel) (Kd.R_below HSB.out.2.2 bel)))
    have HSZ:=hid_ bel.size
    clear HA5 bel
    cases hbf:aZR x s.1 s.2 with
    | error n =>
     rw [hbf] at hbe
     obtain rfl:=hbe
     have hn0:=behind_err hbf
     have hres:=HRES.out
     rw [hbf] at hres
     have HRR:=hid_ (show cZr g=.error ((i:Int),n) from hres)
     have e0:(n == 0)=false:=by rw [beq_eq_false_iff_ne];exact hn0
     clear hres hbf
     have hfx:=aZj H7.out.sw.fx (aZb (Below.refl W7.heap.size W7) (.cells #[.slice B1 s.1.length d1,.slice B2 s.2.length d2] 94))
     have HFX:=hid_ (And.intro hfx (H7.out.sw.st.below.trans ((aZb (Below.refl W7.heap.size W7) (.cells #[.slice B1 s.1.length d1,.slice B2 s.2.length d2] 94)).mono H7.out.sw.st.below.size)))
     clear hfx
     go_upto_region 32 with (fail)
     refine fZl (by kernel_rfl) HFX.out.1 ?_
     intro _ _ _
     dsimp only
     go_step
     go_step
     (try go_step)
     refine bodyPost_ret (results31 _ _ (w.heap.size+1) n i (.slice none 0 0) ?_ ?_ (setRow_heap _ _ _ _ _ _ HFX.out.1)) ?_ ?_
     · kernel_rfl
     · kernel_rfl
     · kernel_rfl
     · exact cZK HFX.out.2 (by omega) HRR.out
    | ok t =>
     rw [hbf] at hbe
     obtain ⟨v1,v2,rfl,t1,t2⟩:=hbe
     have r1:=new_ok t1 H5.out.sw.lt H5.out.sw.st.below.size
     have r2:(Kd.int .i64).R 3 W7 w.heap.size (fun k=>¬I k) v2 t.2:=by
      rcases t2 with ⟨rfl,ht⟩|t2
      · rw [ht];exact HSB7.out.2.2
      · exact new_ok t2 H5.out.sw.lt H5.out.sw.st.below.size
     obtain ⟨C1,e1,rfl⟩:=Kd.R_slice r1
     obtain ⟨C2,e2,rfl⟩:=Kd.R_slice r2
     have hgt:=eZN HGS.out.1 hbf
     have hres:=HRES.out
     rw [hbf] at hres
     have HBF:=hid_ hbf
     clear t1 t2 hbf
     go_upto_region 27 with (fail)
     have hT:=heap_alloc_new W7 (.cells #[.slice C1 t.1.length e1,.slice C2 t.2.length e2] 94)
     have hb8:=aZb (Below.refl W7.heap.size W7) (.cells #[.slice C1 t.1.length e1,.slice C2 t.2.length e2] 94)
     have H8:=hid_ (H7.out.next hb8)
     have HA8:=hid_ (aZj HA7.out hb8)
     have HSB8:=hid_ (And.intro (aZj HSB7.out.1 hb8) (And.intro (Kd.R_below HSB7.out.2.1 hb8) (Kd.R_below HSB7.out.2.2 hb8)))
     have HT8:=hid_ (And.intro hT (And.intro (Kd.R_below r1 hb8) (Kd.R_below r2 hb8)))
     have hvlt:=Kd.R_lt H7.out.sw.ahead
     clear hb8 r1 r2 hT H7 HA7 HSB7
     generalize W7.alloc (.cells #[.slice C1 t.1.length e1,.slice C2 t.2.length e2] 94)=W8 at H8 HA8 HSB8 HT8 ⊢
     generalize W7.heap.size=bt at HT8 hvlt ⊢
     have HVL:=hid_ hvlt
     clear hvlt
     obtain ⟨x0,x1,x2,x3,x4,x5,x6⟩:=cZl H8.out.sw.st.box
     obtain ⟨a0,a1,a2,a3⟩:=cells4 HA8.out
     have z0:W8.cell? ⟨bt,0,none⟩=some (.slice C1 t.1.length e1):=by simp [World.cell?,HT8.out.1]
     have hdepk:(KP g).dep=g.dep:=rfl
     rw [hdepk] at hres
     by_cases hdp:g.dep<(t.1.length:Int)
     ·
      have HRR:=hid_ (show cZr g=.error ((i:Int),216) by rw [hres];unfold endR;dsimp only;rw [if_pos hdp])
      have dd:decide ((t.1.length:Int) > g.dep)=true:=decide_eq_true hdp
      clear hres hdp
      go_upto_region 32 with (fail)
      refine fZl (by kernel_rfl) H8.out.sw.fx ?_
      intro _ _ _
      dsimp only
      go_step
      go_step
      (try go_step)
      refine bodyPost_ret (results31 _ _ (w.heap.size+1) 216 i (.slice none 0 0) ?_ ?_ (setRow_heap _ _ _ _ _ _ H8.out.sw.fx)) ?_ ?_
      · kernel_rfl
      · kernel_rfl
      · kernel_rfl
      · exact cZK H8.out.sw.st.below (by omega) HRR.out
     ·
      have dd:decide ((t.1.length:Int) > g.dep)=false:=decide_eq_false hdp
      by_cases h36:x.f0=36∧0<t.1.length
      ·
       have HRR:=hid_ (show cZr g=.error ((i:Int),219) by rw [hres];unfold endR;dsimp only;rw [if_neg hdp,if_pos h36])
       have d36:(x.f0 == 36)=true:=by rw [beq_iff_eq];exact h36.1
       have dp0:(0:Int)<(t.1.length:Int):=by omega
       have dp1:0<t.1.length:=h36.2
       clear hres hdp h36
       go_upto_region 32 with (fail)
       refine fZl (by kernel_rfl) H8.out.sw.fx ?_
       intro _ _ _
       dsimp only
       go_step
       go_step
       (try go_step)
       refine bodyPost_ret (results31 _ _ (w.heap.size+1) 219 i (.slice none 0 0) ?_ ?_ (setRow_heap _ _ _ _ _ _ H8.out.sw.fx)) ?_ ?_
       · kernel_rfl
       · kernel_rfl
       · kernel_rfl
       · exact cZK H8.out.sw.st.below (by omega) HRR.out
      ·
       have HRR:=hid_ (show cZr g=refL (KP g) (g.C.length - i - 1) (i+1) (after++[t]) (cZX into x i) (ahead++[s]) by rw [hres];unfold endR;dsimp only;rw [if_neg hdp,if_neg h36])
       have HDP:=hid_ (show (t.1.length:Int)≤g.dep by omega)
       have H36:=hid_ h36
       clear hres hdp h36
       go_upto_region 29 with (fail)
       go_cut [163] (fun s wx=>s=.bool false∧wx=W8)
       case first =>
        by_cases h6:x.f0=36
        ·
         have d36:(x.f0 == 36)=true:=by rw [beq_iff_eq];exact h6
         have hl0:t.1.length=0:=by have:=H36.out;omega
         have hl1:¬(0:Int)<(t.1.length:Int):=by omega
         have hl2:¬ 0<t.1.length:=by omega
         have dl:decide ((t.1.length:Int) > 0)=false:=decide_eq_false hl1
         clear h6 hl0
         go_wp2_with (fail)
         go_meet
         exact ⟨rfl,rfl⟩
        ·
         have d36:(x.f0 == 36)=false:=by rw [beq_eq_false_iff_ne];exact h6
         clear h6
         go_wp2_with (fail)
         go_meet
         exact ⟨rfl,rfl⟩
       case rest =>
       obtain ⟨rfl,hwc⟩:=hcut
       rw [hwc]
       clear hwc wc dd
       clear x0 x1 x2 x3 x4 x5 x6 z0
       go_upto_region 33 with (fail)
       go_cut [176] (fun s wx=>s=.bool (decide (x.f0=33∨x.f0=34))∧wx=W8)
       case first =>
        by_cases h3:x.f0=33
        ·
         have d3:(x.f0 == 33)=true:=by rw [beq_iff_eq];exact h3
         have hd:decide (x.f0=33∨x.f0=34)=true:=decide_eq_true (.inl h3)
         have HD:=hid_ hd
         clear h3 hd
         go_wp2_with (fail)
         go_meet
         exact ⟨by rw [HD.out],rfl⟩
        ·
         have d3:(x.f0 == 33)=false:=by rw [beq_eq_false_iff_ne];exact h3
         by_cases h4:x.f0=34
         ·
          have d4:(x.f0 == 34)=true:=by rw [beq_iff_eq];exact h4
          have hd:decide (x.f0=33∨x.f0=34)=true:=decide_eq_true (.inr h4)
          have HD:=hid_ hd
          clear h3 h4 hd
          go_wp2_with (fail)
          go_meet
          exact ⟨by rw [HD.out],rfl⟩
         ·
          have d4:(x.f0 == 34)=false:=by rw [beq_eq_false_iff_ne];exact h4
          have hd:decide (x.f0=33∨x.f0=34)=false:=decide_eq_false (fun h=>h.elim h3 h4)
          have HD:=hid_ hd
          clear h3 h4 hd
          go_wp2_with (fail)
          go_meet
          exact ⟨by rw [HD.out],rfl⟩
       case rest =>
       obtain ⟨rfl,hwc⟩:=hcut
       rw [hwc]
       clear hwc wc
       go_upto_if 176 with (fail)
       go_cut [] (fun wx=>∃ I',Noted w W8 wx I I' (.slice (some ⟨gi,0,none⟩) g.C.length ci) (cZX into x i))
       case first =>
        by_cases hj:x.f0=33∨x.f0=34
        ·
         have hxk:aZg (KP g).C (i:Int)=x:=HX.out
         obtain ⟨j1,j2⟩:=fZ7 HF0.out (by rw [hxk];exact hj)
         rw [hxk] at j1 j2
         have j3:(KP g).C.length=g.C.length:=rfl
         rw [j3] at j2
         have j4:x.f1.toNat<g.C.length:=by omega
         have j5:(0:Int)≤x.f1:=by omega
         obtain ⟨oki,Au,cu,k1,k2,k3,hne,hng,hput⟩:=noted_push (A:=x.f1.toNat) H8.out.sw j4
         have hlen:(into.getD x.f1.toNat []).length≤100000:=by have:=H8.out.inlen x.f1.toNat;omega
         have hinto:cZX into x i=into.set x.f1.toNat (into.getD x.f1.toNat []++[(i:Int)]):=if_pos hj
         have HPUT:=hid_ (And.intro hinto hput)
         have hnb:=hne bx _ 66 HA8.out (by decide)
         rw [decide_eq_true hj]
         generalize into.getD x.f1.toNat []=lu at k1 k3 hnb hng hlen HPUT
         clear hj hxk j1 j3 hne hput hinto
         go_upto_region 34 with (fail)
         refine walk_r34 (by kernel_rfl) a1 k1 k2 k3 hnb hng j5 j2 H8.out.sw.st.below.size hlen (fun _ _ _ _ _ h=>h) ?_
         intro _ _ _ _ _ _ _ _ _ _ _ _ A2' c2' w1 hr hg
         clear a0 a1 a2 a3 k1 k2 k3 hnb hng
         go_wp2_with (fail)
         go_meet
         rw [HPUT.out.1]
         exact HPUT.out.2 w1 _ _ hr hg
        ·
         have hinto:cZX into x i=into:=if_neg hj
         have HJ:=hid_ hinto
         rw [decide_eq_false hj]
         clear hj hinto
         go_wp2_with (fail)
         go_meet
         rw [HJ.out]
         exact ⟨I,Noted.idle H8.out.sw⟩
       case rest =>
       obtain ⟨I',hn'⟩:=hcut
       obtain ⟨V9,hV9⟩:∃ V9,V9=wc:=⟨_,rfl⟩
       subst hV9
       have HN:=hid_ hn'
       have SW:=hid_ (hn'.sw H8.out.sw HI.out)
       have rs1:=hn'.row HSB8.out.2.1
       have rs2:=hn'.row HSB8.out.2.2
       have rt1:=hn'.row HT8.out.2.1
       have rt2:=hn'.row HT8.out.2.2
       have hbs9:=(hn'.typed _ _ _ HSB8.out.1 (by decide) (by decide)).trans HSB8.out.1
       have hbt9:=(hn'.typed _ _ _ HT8.out.1 (by decide) (by decide)).trans HT8.out.1
       have HR9:=hid_ (And.intro rs1 (And.intro rs2 (And.intro rt1 (And.intro rt2 hbt9))))
       obtain ⟨y0,y1⟩:V9.cell? ⟨bs,0,none⟩=some (.slice B1 s.1.length d1)∧V9.cell? ⟨bs,1,none⟩=some (.slice B2 s.2.length d2):=by simp [World.cell?,hbs9]
       clear hn' rs1 rs2 rt1 rt2 hbs9 hbt9 a0 a1 a2 a3
       have hlen1:(ahead.length+1)*48≤140737488355328:=by rw [H8.out.lah];omega
       have hlen2:(after.length+1)*48≤140737488355328:=by rw [H8.out.la];omega
       have z94:Value.cells (.agg #[.slice none 0 0,.slice none 0 0])=#[.slice none 0 0,.slice none 0 0]:=rfl
       go_upto_region 36 with ((with_reducible refine aZh (b:=.append) (xs:=#[.tmp 189,.tmp 191]) rfl ?_);at_builtin;refine Kd.R_append kSt (w0:=V9) w.heap.size rfl (.tmp 189) (.tmp 191) 90 94 (.agg #[.slice none 0 0,.slice none 0 0]) 48 rfl Try.underlying90 info94_ rfl (by decide) (by omega) u6 ahead s [.slice B1 s.1.length d1,.slice B2 s.2.length d2] (fun k=>¬I' k∧some k≠u7.ownBlock) _ rfl rfl (push_M SW.out HR9.out.1 HR9.out.2.1) (fun _ hk=>hk) (fun k hk=>⟨fun hi=>Nat.lt_irrefl _ (Nat.lt_of_lt_of_le (SW.out.lt k hi) hk),fun e=>Nat.lt_irrefl _ (Nat.lt_of_lt_of_le (Kd.R_lt SW.out.after k e.symm) hk)⟩) SW.out.ahead (Below.refl _ _) SW.out.st.below.size hlen1 ?_;intro va2 w2 hr2 hb2 hg2 hat2)
       have SW2:=hid_ (SW.out.push_ahead HI.out hr2 hb2 hg2 hat2)
       have rt1:=fZN SW.out HR9.out.2.2.1 hg2
       have rt2:=fZN SW.out HR9.out.2.2.2.1 hg2
       have hbt2:=(hg2.block bt (aZd HR9.out.2.2.2.2) (fun e=>Nat.lt_irrefl _ (HVL.out bt e.symm))).trans HR9.out.2.2.2.2
       have HR2:=hid_ (And.intro rt1 rt2)
       obtain ⟨z0,z1⟩:w2.cell? ⟨bt,0,none⟩=some (.slice C1 t.1.length e1)∧w2.cell? ⟨bt,1,none⟩=some (.slice C2 t.2.length e2):=by simp [World.cell?,hbt2]
       clear y0 y1 hr2 hb2 hg2 hat2 rt1 rt2 hbt2 hlen1
       go_wp2_with ((with_reducible refine aZh (b:=.append) (xs:=#[.tmp 193,.tmp 195]) rfl ?_);at_builtin;refine Kd.R_append kSt (w0:=w2) w.heap.size rfl (.tmp 193) (.tmp 195) 90 94 (.agg #[.slice none 0 0,.slice none 0 0]) 48 rfl Try.underlying90 info94_ rfl (by decide) (by omega) u7 after t [.slice C1 t.1.length e1,.slice C2 t.2.length e2] (fun k=>¬I' k∧some k≠va2.ownBlock) _ rfl rfl (push_M2 SW2.out HR2.out.1 HR2.out.2) (fun _ hk=>hk) (fun k hk=>⟨fun hi=>Nat.lt_irrefl _ (Nat.lt_of_lt_of_le (SW2.out.lt k hi) hk),fun e=>Nat.lt_irrefl _ (Nat.lt_of_lt_of_le (Kd.R_lt SW2.out.ahead k e.symm) hk)⟩) SW2.out.after (Below.refl _ _) SW2.out.st.below.size hlen2 ?_;intro vb2 w3 hr3 hb3 hg3 hat3)
       have SW3:=hid_ (SW2.out.push_after HI.out hr3 hb3 hg3 hat3)
       have hinv:=inv_step H8.out SW3.out hlt hgt HDP.out HRR.out
       clear z0 z1 hr3 hb3 hg3 hat3 hlen2
       go_roundw
       case rel=>exact ⟨i+1,I',cZX into x i,ahead++[s],after++[t],by go_num,hinv⟩
       case measure=>simp [intOf];omega
  ·
   have hie:i=g.C.length:=by have:=H.out.le;omega
   have hres:=H.out.res
   rw [show g.C.length - i=0 by omega,refL] at hres
   have HRES:=hid_ hres
   have hge:¬(i:Int)<(g.C.length:Int):=by omega
   clear hres hie hlt
   go_upto_region 37 with (fail)
   refine walk_r37 (by kernel_rfl) H.out.sw.fx ?_
   intro _ _
   dsimp only
   go_step
   go_step
   (try go_step)
   refine bodyPost_ret (results31 _ _ (w.heap.size+1) 0 0 u6 ?_ ?_ (setRow_heap _ _ _ _ _ _ H.out.sw.fx)) ?_ ?_
   · kernel_rfl
   · kernel_rfl
   · kernel_rfl
   ·
    rw [HRES.out]
    exact ⟨below_setRow H.out.sw.st.below (by omega) _,u6,rfl,row_setRow H.out.sw.ahead H.out.sw.fx⟩
theorem gZm (W:World) (a b:Obj):((W.alloc a).alloc b).heap[W.heap.size]?=some a∧((W.alloc a).alloc b).heap[W.heap.size+1]?=some b∧Below W.heap.size W ((W.alloc a).alloc b):=cZt W a b
theorem dZ0 (w:World) (A0 A1 A2 A3 A4:Option Addr) (c0 c1 c2 c3 c4:Nat) (g:Pg) (hI:InPg w A0 A1 A2 A3 A4 c0 c1 c2 c3 c4 g) (f:Fits g) (hno:aZF g.T.length g.N.length g.S.length g.M.length g.C g.dep g.loc∨g.C.length=0) :
 Calls Try.prog 31 #[cZs A0 A1 A2 A3 A4 c0 c1 c2 c3 c4 g] w (dZY w (cZr g)):=by
 have l0:=f.T
 have l1:=f.N
 have l2:=f.S
 have l3:=f.M
 have l4:=f.C
 obtain ⟨p0,p1,p2⟩:=gZm w (.cells #[.slice A0 g.T.length c0,.slice A1 g.N.length c1,.slice A2 g.S.length c2,.slice A3 g.M.length c3,.slice A4 g.C.length c4,.int .i64 g.dep,.int .i64 g.loc] 28) (rdO 0 0)
 have hST:StL w ((w.alloc (.cells #[.slice A0 g.T.length c0,.slice A1 g.N.length c1,.slice A2 g.S.length c2,.slice A3 g.M.length c3,.slice A4 g.C.length c4,.int .i64 g.dep,.int .i64 g.loc] 28)).alloc (rdO 0 0)) w.heap.size A0 A1 A2 A3 A4 c0 c1 c2 c3 c4 g:=⟨p2,p0,hI.below p2⟩
 have HL:=hid_ (And.intro l0 (And.intro l1 (And.intro l2 (And.intro l3 l4))))
 clear p0 p2 hI f
 unfold cZs
 go_enter Try.func31,Try.ntmps31
 go_upto_region 1 with (fail)
 generalize (w.alloc (.cells #[.slice A0 g.T.length c0,.slice A1 g.N.length c1,.slice A2 g.S.length c2,.slice A3 g.M.length c3,.slice A4 g.C.length c4,.int .i64 g.dep,.int .i64 g.loc] 28)).alloc (rdO 0 0)=W1 at hST p1 ⊢
 have HST:=hid_ hST
 have HF:=hid_ p1
 clear p1 hST
 obtain ⟨x0,x1,x2,x3,x4,x5,x6⟩:=cZl HST.out.box
 go_upto_region 2 with (fail)
 obtain ⟨bD,hbD⟩:∃ b:Bool,(b=true↔aZF g.T.length g.N.length g.S.length g.M.length g.C g.dep g.loc):=by
  by_cases h:aZF g.T.length g.N.length g.S.length g.M.length g.C g.dep g.loc
  · exact ⟨true,by simp [h]⟩
  · exact ⟨false,by simp [h]⟩
 unfold aZF at hbD
 have HBD:=hid_ hbD
 clear hbD
 go_cut [59] (fun s wx=>s=.bool bD∧wx=W1)
 case first =>
  by_cases h0:32768<g.C.length
  ·
   have d0:decide ((g.C.length:Int) > 32768)=true:=decide_eq_true (by omega)
   have hb:bD=true:=HBD.out.2 (.inl h0)
   clear h0 l0 l1 l2 l3 l4
   go_wp2_with (fail)
   go_meet
   exact ⟨by rw [hb],rfl⟩
  have d0:decide ((g.C.length:Int) > 32768)=false:=decide_eq_false (by omega)
  by_cases h1:g.dep<0
  ·
   have d1:decide (g.dep<0)=true:=decide_eq_true (by omega)
   have hb:bD=true:=HBD.out.2 (.inr (.inl h1))
   clear h0 h1 l0 l1 l2 l3 l4
   go_wp2_with (fail)
   go_meet
   exact ⟨by rw [hb],rfl⟩
  have d1:decide (g.dep<0)=false:=decide_eq_false (by omega)
  by_cases h2:128<g.dep
  ·
   have d2:decide (g.dep > 128)=true:=decide_eq_true (by omega)
   have hb:bD=true:=HBD.out.2 (.inr (.inr (.inl h2)))
   clear h0 h1 h2 l0 l1 l2 l3 l4
   go_wp2_with (fail)
   go_meet
   exact ⟨by rw [hb],rfl⟩
  have d2:decide (g.dep > 128)=false:=decide_eq_false (by omega)
  by_cases h3:g.loc<0
  ·
   have d3:decide (g.loc<0)=true:=decide_eq_true (by omega)
   have hb:bD=true:=HBD.out.2 (.inr (.inr (.inr (.inl h3))))
   clear h0 h1 h2 h3 l0 l1 l2 l3 l4
   go_wp2_with (fail)
   go_meet
   exact ⟨by rw [hb],rfl⟩
  have d3:decide (g.loc<0)=false:=decide_eq_false (by omega)
  by_cases h4:1024<g.loc
  ·
   have d4:decide (g.loc > 1024)=true:=decide_eq_true (by omega)
   have hb:bD=true:=HBD.out.2 (.inr (.inr (.inr (.inr (.inl h4)))))
   clear h0 h1 h2 h3 h4 l0 l1 l2 l3 l4
   go_wp2_with (fail)
   go_meet
   exact ⟨by rw [hb],rfl⟩
  have d4:decide (g.loc > 1024)=false:=decide_eq_false (by omega)
  have d5:decide ((g.T.length:Int)+(g.N.length:Int)+(g.S.length:Int)+(g.M.length:Int) > 4096)=bD:=by
   cases bD with
   | true =>
    have:=HBD.out.1 rfl
    exact decide_eq_true (by omega)
   | false =>
    refine decide_eq_false (fun h=>?_)
    have:=HBD.out.2 (.inr (.inr (.inr (.inr (.inr (by omega))))))
    cases this
  clear h0 h1 h2 h3 h4 l0 l1 l2 l3 l4
  go_wp2_with (fail)
  go_meet
  exact ⟨rfl,rfl⟩
 case rest =>
 obtain ⟨rfl,hwc⟩:=hcut
 rw [hwc]
 clear hwc wc
 cases bD with
 | true =>
  have hD:aZF g.T.length g.N.length g.S.length g.M.length g.C g.dep g.loc:=HBD.out.1 rfl
  go_wp2_with ((with_reducible refine aZM (t:=41) (p:=3) rfl ?_);refine wpList_store_row rfl 41 (.tmp 3) (.tmp 60) rfl (w.heap.size+1) (rdC 210 (-1)) rfl rfl 41 (rdC 0 0) HF.out (bZL 210 (-1)) (bZX 0 0 210 (-1)) (cZW 210 (-1)) ?_)
  refine bodyPost_ret (results31 _ _ (w.heap.size+1) 210 (-1) (.slice none 0 0) ?_ ?_ (setRow_heap _ _ _ _ _ _ HF.out)) ?_ ?_
  · kernel_rfl
  · kernel_rfl
  · kernel_rfl
  · exact cZK HST.out.below (by omega) (by unfold cZr gZk;rw [if_pos hD])
 | false =>
  have hD:¬aZF g.T.length g.N.length g.S.length g.M.length g.C g.dep g.loc:=fun h=>by have:=HBD.out.2 h;cases this
  have h0:=hno.resolve_left hD
  have e0:((g.C.length:Int) == 0)=true:=by rw [beq_iff_eq];omega
  have H0:=hid_ h0
  clear h0 l0 l1 l2 l3 l4 hno
  go_wp2_with ((with_reducible refine aZM (t:=41) (p:=3) rfl ?_);refine wpList_store_row rfl 41 (.tmp 3) (.tmp 65) rfl (w.heap.size+1) (rdC 219 0) rfl rfl 41 (rdC 0 0) HF.out (bZL 219 0) (bZX 0 0 219 0) (cZW 219 0) ?_)
  refine bodyPost_ret (results31 _ _ (w.heap.size+1) 219 0 (.slice none 0 0) ?_ ?_ (setRow_heap _ _ _ _ _ _ HF.out)) ?_ ?_
  · kernel_rfl
  · kernel_rfl
  · kernel_rfl
  · exact cZK HST.out.below (by omega) (by unfold cZr gZk;rw [if_neg hD,if_pos H0.out])
def prg.T3:Bool × List (List Nat × List Nat):=(true,[([],[]),([],[]),([0,0],[0]),([1,2,0,1,2],[1])])
def prg.B3:List Nat:=[0,0,1,7]
theorem prg.tab3:rtab .any (dZf Try.f13 3)=prg.T3:=by kernel_rfl
theorem prg.bits3:cZn prg.T3.2 prg.B3=true:=by kernel_rfl
theorem dZR {o:Oper} {a:Act} {w:World} {x:Operand} {g:Nat} {n i:Int} (ho:o.op=.load 41 x) (hx:a.eval x=.pointer (some ⟨g,0,none⟩)) (hg:w.heap[g]?=some (rdO n i)):(execOp a.eval o).run Try.prog w=.ok (.value (rdV n i)) w:=by
  unfold execOp
  simp only [ho,hx,Instr.loadAt,Instr.sureAddr,Sem.run_bind,Sem.run_pure,Result.andThen_ok,run_loadVar_row (P:=Try.prog) w g 41 41 (rdC n i) (0,0) _ hg Try.underlying41 rfl (by kernel_rfl)]
theorem cZM (W:World) (Z:Nat) (a b:Value) (k:Nat) (hk:k≠Z):((W.setCell ⟨Z,0,none⟩ a).setCell ⟨Z,1,none⟩ b).heap[k]?=W.heap[k]?:=by
  rw [Below.heap_setCell _ _ _ _ (by simpa using hk),Below.heap_setCell _ _ _ _ (by simpa using hk)]
theorem results13 (tmps:Array Value) (w:World) (P Q:Nat) (a b:Value) (n i:Int) (h2:tmps.getD 2 undef=.pointer (some ⟨P,0,none⟩)) (h3:tmps.getD 3 undef=.pointer (some ⟨Q,0,none⟩)) (hP:w.heap[P]?=some (.cells #[a,b] 31 (0,0))) (hQ:w.heap[Q]?=some (rdO n i)) :
    (results Try.f13 tmps).run Try.prog w=.ok (.tuple #[.agg #[a,b],rdV n i]) w:=by
  have hl:=run_loadVar_row (P:=Try.prog) w P 31 31 #[a,b] (0,0) _ hP Try.underlying31 rfl (by kernel_rfl)
  have hl2:=run_loadVar_row (P:=Try.prog) w Q 41 41 _ (0,0) _ hQ Try.underlying41 rfl (by kernel_rfl)
  have h2':tmps[2]?.getD undef=.pointer (some ⟨P,0,none⟩):=by simpa using h2
  have h3':tmps[3]?.getD undef=.pointer (some ⟨Q,0,none⟩):=by simpa using h3
  simp [results,Try.results13,h2',h3',asAddr,hl,hl2]
theorem take_succ' (l:List Pr) (j:Nat) (h:j<l.length):l.take (j+1)=l.take j++[l.getD j ([],[])]:=by
  rw [List.getD_eq_getElem?_getD,List.getElem?_eq_getElem h]
  exact (List.take_append_getElem h).symm
def PrgEnd (w:World) (n0:Nat) (r:Except (Int × Int) (List Pr)) (e:Ending) (w':World):Prop :=
  Below w.heap.size w w' ∧
  match r with
  | .error (i,n)=>e=.returned (.tuple #[.agg #[.int .i64 0,.int .i64 0],rdV n i])
  | .ok l=>e=.returned (.tuple #[.agg #[.int .i64 (dZD l),.int .i64 n0],rdV 0 0])
theorem prg_err (w:World) (A0 A1 A2 A3 A4:Option Addr) (c0 c1 c2 c3 c4:Nat) (g:Pg) (hI:InPg w A0 A1 A2 A3 A4 c0 c1 c2 c3 c4 g) {i n:Int} (hn:n≠0) (hr:cZr g=.error (i,n))
 (hW:∀ W,InPg W A0 A1 A2 A3 A4 c0 c1 c2 c3 c4 g→Calls Try.prog 31 #[cZs A0 A1 A2 A3 A4 c0 c1 c2 c3 c4 g] W (dZY W (cZr g))) :
 Calls Try.prog 13 #[cZs A0 A1 A2 A3 A4 c0 c1 c2 c3 c4 g] w (PrgEnd w g.C.length (cZr g)):=by
 obtain ⟨p0,p1,p2,p3⟩:=bZW w (.cells #[.slice A0 g.T.length c0,.slice A1 g.N.length c1,.slice A2 g.S.length c2,.slice A3 g.M.length c3,.slice A4 g.C.length c4,.int .i64 g.dep,.int .i64 g.loc] 28) (.cells #[.int .i64 0,.int .i64 0] 31) (rdO 0 0)
 have hST:StL w (((w.alloc (.cells #[.slice A0 g.T.length c0,.slice A1 g.N.length c1,.slice A2 g.S.length c2,.slice A3 g.M.length c3,.slice A4 g.C.length c4,.int .i64 g.dep,.int .i64 g.loc] 28)).alloc (.cells #[.int .i64 0,.int .i64 0] 31)).alloc (rdO 0 0)) w.heap.size A0 A1 A2 A3 A4 c0 c1 c2 c3 c4 g:=⟨p3,p0,hI.below p3⟩
 have HW:=hid_ hW
 clear p0 p3 hI hW
 unfold cZs
 go_enter Try.func13,Try.ntmps13
 go_upto_region 1 with (fail)
 generalize ((w.alloc (.cells #[.slice A0 g.T.length c0,.slice A1 g.N.length c1,.slice A2 g.S.length c2,.slice A3 g.M.length c3,.slice A4 g.C.length c4,.int .i64 g.dep,.int .i64 g.loc] 28)).alloc (.cells #[.int .i64 0,.int .i64 0] 31)).alloc (rdO 0 0)=W1 at hST p1 p2 ⊢
 obtain ⟨x0,x1,x2,x3,x4,x5,x6⟩:=cZl hST.box
 have HST:=hid_ hST
 have HF:=hid_ (And.intro p1 p2)
 clear p1 p2 hST
 go_wp2_with (fail)
 clear x0 x1 x2 x3 x4 x5 x6
 refine (show Calls _ _ _ _ _ from HW.out W1 HST.out.pg).mono ?_
 rw [hr]
 rintro e W2 ⟨bel,he⟩
 obtain rfl:=he
 have e0:(n == 0)=false:=by rw [beq_eq_false_iff_ne];exact hn
 have hS2:=aZj HF.out.1 bel
 have hF2:=aZj HF.out.2 bel
 have hA:=heap_alloc_new W2 (rdO 0 0)
 have hb2:=aZb (Below.refl W2.heap.size W2) (rdO 0 0)
 go_upto_region 2 with ((with_reducible refine aZM (t:=41) (p:=5) rfl ?_);refine wpList_store_row rfl 41 (.tmp 5) (.tmp 12) rfl W2.heap.size (rdC n i) rfl rfl 41 (rdC 0 0) hA (bZL n i) (bZX 0 0 n i) (cZW n i) ?_)
 have hB5:=setRow_heap _ _ _ (rdC n i) _ _ hA
 have hb3:Below W2.heap.size W2 ((W2.alloc (rdO 0 0)).setRow W2.heap.size (rdC n i)):=below_setRow hb2 (Nat.le_refl _) _
 have hS3:=aZj hS2 hb3
 have hF3:=aZj hF2 hb3
 have hbw:=HST.out.below.trans ((bel.trans (hb3.mono bel.size)).mono HST.out.below.size)
 have hlt2:=aZd hS2
 clear hA hb2 hF2 hS2 bel HST HF HW hb3
 generalize (W2.alloc (rdO 0 0)).setRow W2.heap.size (rdC n i)=W at hB5 hF3 hS3 hbw ⊢
 generalize W2.heap.size=b5 at hB5 hlt2 ⊢
 have y0:W.cell? ⟨b5,0,none⟩=some (.int .i64 n):=by simp [World.cell?,hB5]
 have HB5:=hid_ hB5
 have HBF:=hid_ hF3
 have HBS:=hid_ hS3
 have HBW:=hid_ hbw
 have HHR:=hid_ hr
 have HNE:=hid_ (show b5≠w.heap.size+1∧True from ⟨by omega,trivial⟩)
 clear hB5 hF3 hS3 hbw hr hn hlt2
 go_upto_region 3 with (fail)
 clear y0 e0
 go_cut [] (fun wx=>wx=((W.drew.setCell ⟨w.heap.size+1,0,none⟩ (.int .i64 0)).setCell ⟨w.heap.size+1,1,none⟩ (.int .i64 0)).setRow (w.heap.size+1+1) (rdC n i))
 case first =>
  refine eZX (n:=4) (S:=fun w'=>(w'.heap[b5]?=some (rdO n i)∧w'.heap[w.heap.size+1+1]?=some (rdO 0 0))) (ds:=[3]) (bm 4 0) (by kernel_rfl) rfl (by kernel_rfl) ⟨HB5.out,HBF.out⟩ (fun hHeld=>?_)
  refine cZq prg.tab3 prg.bits3 (fun HT_ HW_=>?_)
  refine bZG (i:=0) (N:=some 16) (v:=?_) (a':=?_) (bm 4 1) rfl rfl (aZY HT_.out (by kernel_rfl)) (fun _ _ _ h=>h) (Or.inl ⟨by rfl,?_⟩) ?_ ?_
  rotate_left
  ·
   intro w'
   go_simp
   with_reducible rfl
  rotate_left
  ·
   simp only [Act.put,List.setIfInBounds_toArray,List.set_cons_zero,List.set_cons_succ]
   rfl
  refine take_ (i:=1) (N:=some 17) (v:=?_) (a':=?_) (bm 4 3) rfl rfl (bZc HT_.out HW_.out (by kernel_rfl)) (fun _ _ _ h=>h) (Or.inl ⟨by rfl,?_⟩) hHeld ?_ ?_
  rotate_left
  ·
   intro w' hS'
   refine dZR (x:=.tmp 5) (g:=b5) (n:=n) (i:=i) ?h1 ?h2 ?h3
   case h3=>exact hS'.1
   case h1=>exact rfl
   exact rfl
  rotate_left
  ·
   simp only [Act.put,List.setIfInBounds_toArray,List.set_cons_zero,List.set_cons_succ]
   rfl
  refine one_ (i:=2) (N:=none) (bm 4 7) rfl rfl (cZc HT_.out (by kernel_rfl)) (by decide) (fun K hK=>?_)
  have y0:W.cell? ⟨w.heap.size+1,0,none⟩=some (.int .i64 0):=by simp [World.cell?,HBS.out]
  have y1:W.cell? ⟨w.heap.size+1,1,none⟩=some (.int .i64 0):=by simp [World.cell?,HBS.out]
  have yf:=froz HBS.out
  go_simp
  refine hK.out _ _ ⟨(cZM W.drew _ _ _ b5 HNE.out.1).trans HB5.out,(cZM W.drew _ _ _ (w.heap.size+1+1) (by omega)).trans HBF.out⟩ (fun hHeld=>?_)
  clear y0 y1 yf
  clear hK K
  refine last_ (i:=3) (N:=none) (bm 4 15) rfl rfl (cZc HT_.out (by kernel_rfl)) (by decide) (fun K hK=>?_)
  rw [if_pos (by rfl)]
  refine wp_store_row 41 (.tmp 3) (.tmp 17) rfl (w.heap.size+1+1) (rdC n i) rfl rfl 41 (rdC 0 0) hHeld.2 (bZL n i) (bZX 0 0 n i) (cZW n i) ?_
  refine hK.out _ _ ?_
  clear hK K
  refine done_ (dZV HT_.out (by kernel_rfl)) ?_
  go_wp2_with (fail)
  go_meet
  rfl
 case rest =>
  obtain rfl:=hcut
  have hF4:((W.drew.setCell ⟨w.heap.size+1,0,none⟩ (.int .i64 0)).setCell ⟨w.heap.size+1,1,none⟩ (.int .i64 0)).heap[w.heap.size+1+1]?=some (rdO 0 0):=(cZM W.drew _ _ _ (w.heap.size+1+1) (by omega)).trans HBF.out
  have hS4:((W.drew.setCell ⟨w.heap.size+1,0,none⟩ (.int .i64 0)).setCell ⟨w.heap.size+1,1,none⟩ (.int .i64 0)).heap[w.heap.size+1]?=some (.cells #[.int .i64 0,.int .i64 0] 31 (0,0)):=bZP W.drew _ _ _ ⟨_,_,HBS.out⟩
  have HH:=hid_ (And.intro hF4 hS4)
  clear hF4 hS4
  go_wp2_with (fail)
  refine bodyPost_ret (results13 _ _ (w.heap.size+1) (w.heap.size+1+1) (.int .i64 0) (.int .i64 0) n i ?_ ?_ ((aZl _ _ _ _ (by omega)).trans HH.out.2) (setRow_heap _ _ _ _ _ _ HH.out.1)) ?_ ?_
  · kernel_rfl
  · kernel_rfl
  · kernel_rfl
  ·
   rw [HHR.out]
   exact ⟨below_setRow ((HBW.out.drew.setCell (by simp) _).setCell (by simp) _) (by omega) _,rfl⟩
theorem prg_ok (w:World) (A0 A1 A2 A3 A4:Option Addr) (c0 c1 c2 c3 c4:Nat) (g:Pg) (hI:InPg w A0 A1 A2 A3 A4 c0 c1 c2 c3 c4 g) {l:List Pr} (hr:cZr g=.ok l) (hll:l.length≤40000)
 (hW:∀ W,InPg W A0 A1 A2 A3 A4 c0 c1 c2 c3 c4 g→Calls Try.prog 31 #[cZs A0 A1 A2 A3 A4 c0 c1 c2 c3 c4 g] W (dZY W (cZr g))) :
 Calls Try.prog 13 #[cZs A0 A1 A2 A3 A4 c0 c1 c2 c3 c4 g] w (PrgEnd w g.C.length (cZr g)):=by
 obtain ⟨p0,p1,p2,p3⟩:=bZW w (.cells #[.slice A0 g.T.length c0,.slice A1 g.N.length c1,.slice A2 g.S.length c2,.slice A3 g.M.length c3,.slice A4 g.C.length c4,.int .i64 g.dep,.int .i64 g.loc] 28) (.cells #[.int .i64 0,.int .i64 0] 31) (rdO 0 0)
 have hST:StL w (((w.alloc (.cells #[.slice A0 g.T.length c0,.slice A1 g.N.length c1,.slice A2 g.S.length c2,.slice A3 g.M.length c3,.slice A4 g.C.length c4,.int .i64 g.dep,.int .i64 g.loc] 28)).alloc (.cells #[.int .i64 0,.int .i64 0] 31)).alloc (rdO 0 0)) w.heap.size A0 A1 A2 A3 A4 c0 c1 c2 c3 c4 g:=⟨p3,p0,hI.below p3⟩
 have HW:=hid_ hW
 clear p0 p3 hI hW
 unfold cZs
 go_enter Try.func13,Try.ntmps13
 go_upto_region 1 with (fail)
 generalize ((w.alloc (.cells #[.slice A0 g.T.length c0,.slice A1 g.N.length c1,.slice A2 g.S.length c2,.slice A3 g.M.length c3,.slice A4 g.C.length c4,.int .i64 g.dep,.int .i64 g.loc] 28)).alloc (.cells #[.int .i64 0,.int .i64 0] 31)).alloc (rdO 0 0)=W1 at hST p1 p2 ⊢
 obtain ⟨x0,x1,x2,x3,x4,x5,x6⟩:=cZl hST.box
 have HST:=hid_ hST
 have HF:=hid_ (And.intro p1 p2)
 clear p1 p2 hST
 go_wp2_with (fail)
 clear x0 x1 x2 x3 x4 x5 x6
 refine (show Calls _ _ _ _ _ from HW.out W1 HST.out.pg).mono ?_
 rw [hr]
 rintro e W2 ⟨bel,he⟩
 obtain ⟨v,rfl,hv⟩:=he
 have hS2:=aZj HF.out.1 bel
 have hF2:=aZj HF.out.2 bel
 have hX2:=aZj HST.out.box bel
 have hA:=heap_alloc_new W2 (rdO 0 0)
 have hb2:=aZb (Below.refl W2.heap.size W2) (rdO 0 0)
 go_upto_region 2 with ((with_reducible refine aZM (t:=41) (p:=5) rfl ?_);refine wpList_store_row rfl 41 (.tmp 5) (.tmp 12) rfl W2.heap.size (rdC 0 0) rfl rfl 41 (rdC 0 0) hA (bZL 0 0) (bZX 0 0 0 0) (cZW 0 0) ?_)
 have hB5:=setRow_heap _ _ _ (rdC 0 0) _ _ hA
 have hb3:Below W2.heap.size W2 ((W2.alloc (rdO 0 0)).setRow W2.heap.size (rdC 0 0)):=below_setRow hb2 (Nat.le_refl _) _
 have hS3:=aZj hS2 hb3
 have hF3:=aZj hF2 hb3
 have hX3:=aZj hX2 hb3
 have hbw:=HST.out.below.trans ((bel.trans (hb3.mono bel.size)).mono HST.out.below.size)
 have hv3:=Kd.R_lower (Kd.R_below hv hb3) HST.out.below.size
 clear hA hb2 hF2 hS2 hX2 bel HST HF HW hb3 hv
 generalize (W2.alloc (rdO 0 0)).setRow W2.heap.size (rdC 0 0)=W at hB5 hF3 hS3 hX3 hbw hv3 ⊢
 generalize W2.heap.size=b5 at hB5 ⊢
 obtain ⟨Av,cv,rfl⟩:=Kd.R_slice hv3
 have y0:W.cell? ⟨b5,0,none⟩=some (.int .i64 0):=by simp [World.cell?,hB5]
 have HV:=hid_ (And.intro hv3 (And.intro hF3 (And.intro hS3 (And.intro hX3 hbw))))
 have HHR:=hid_ hr
 clear hB5 hF3 hS3 hX3 hbw hr hv3
 go_wp2_with (fail)
 clear y0
 go_loopw [6,7] (fun s6 s7 wr=>∃ j:Nat,s7=.int .i64 j∧s6=.int .i64 (dZD (l.take j))∧j≤l.length∧wr=W) (fun _ s7 _=>l.length - (intOf s7).toNat)
 case atStart=>exact ⟨0,rfl,rfl,Nat.zero_le _,rfl⟩
 case round =>
  obtain ⟨j,rfl,rfl,hj,hw⟩:=hrel
  rw [hw]
  clear hw wr
  by_cases hlt:j<l.length
  ·
   obtain ⟨ad,c,B1,d1,B2,d2,hve,k0,-,-,-⟩:=st_at' (I:=fun _=>False) HV.out.1 (fun _ _ h=>h) j hlt
   simp only [Value.slice.injEq] at hve
   obtain ⟨rfl,-,rfl⟩:=hve
   have i0:(0:Int)≤(j:Int):=by omega
   have i1:(j:Int)<(l.length:Int):=by omega
   have hsn:=fZb (l.take j) (l.getD j ([],[]))
   rw [←take_succ' l j hlt] at hsn
   generalize dZD (l.take j)=D at hsn ⊢
   generalize hp:(l.getD j ([],[])).1.length=p at k0 hsn
   have HP:=hid_ hp
   clear hp
   have HSN:=hid_ hsn
   clear hsn
   by_cases hgt:D<(p:Int)
   ·
    have dg:decide ((p:Int) > D)=true:=decide_eq_true hgt
    have hmx:max D (p:Int)=(p:Int):=by omega
    have HMX:=hid_ hmx
    clear hgt hmx
    go_wp2_with (fail)
    go_roundw
    case rel=>exact ⟨j+1,by go_num,by rw [HSN.out,HMX.out],hlt,by first|trivial|rfl⟩
    case measure=>simp [intOf];omega
   ·
    have dg:decide ((p:Int) > D)=false:=decide_eq_false hgt
    have hmx:max D (p:Int)=D:=by omega
    have HMX:=hid_ hmx
    clear hgt hmx
    go_wp2_with (fail)
    go_roundw
    case rel=>exact ⟨j+1,by go_num,by rw [HSN.out,HMX.out],hlt,by first|trivial|rfl⟩
    case measure=>simp [intOf];omega
  ·
   have hje:j=l.length:=by omega
   have hge:¬(j:Int)<(l.length:Int):=by omega
   have hdl:dZD (l.take j)=dZD l:=by rw [hje,List.take_length]
   rw [hdl]
   generalize hD:dZD l=D
   have HD:=hid_ hD
   obtain ⟨x0,x1,x2,x3,x4,x5,x6⟩:=cZl HV.out.2.2.2.1
   have z0:W.cell? ⟨w.heap.size+1,0,none⟩=some (.int .i64 0):=by simp [World.cell?,HV.out.2.2.1]
   have z1:W.cell? ⟨w.heap.size+1,1,none⟩=some (.int .i64 0):=by simp [World.cell?,HV.out.2.2.1]
   have zf:=froz HV.out.2.2.1
   have hF4:((W.setCell ⟨w.heap.size+1,0,none⟩ (.int .i64 D)).setCell ⟨w.heap.size+1,1,none⟩ (.int .i64 g.C.length)).heap[w.heap.size+1+1]?=some (rdO 0 0):=(cZM W _ _ _ (w.heap.size+1+1) (by omega)).trans HV.out.2.1
   have hS4:((W.setCell ⟨w.heap.size+1,0,none⟩ (.int .i64 D)).setCell ⟨w.heap.size+1,1,none⟩ (.int .i64 g.C.length)).heap[w.heap.size+1]?=some (.cells #[.int .i64 D,.int .i64 g.C.length] 31 (0,0)):=bZP W _ _ _ ⟨_,_,HV.out.2.2.1⟩
   have HH:=hid_ (And.intro hF4 hS4)
   clear hF4 hS4 hje hlt hdl hD
   go_wp2_with ((with_reducible refine aZM (t:=41) (p:=3) rfl ?_);refine wpList_store_row rfl 41 (.tmp 3) (.tmp 43) rfl (w.heap.size+1+1) (rdC 0 0) rfl rfl 41 (rdC 0 0) HH.out.1 (bZL 0 0) (bZX 0 0 0 0) (cZW 0 0) ?_)
   refine bodyPost_ret (results13 _ _ (w.heap.size+1) (w.heap.size+1+1) (.int .i64 D) (.int .i64 g.C.length) 0 0 ?_ ?_ ((aZl _ _ _ _ (by omega)).trans HH.out.2) (setRow_heap _ _ _ _ _ _ HH.out.1)) ?_ ?_
   · kernel_rfl
   · kernel_rfl
   · kernel_rfl
   ·
    rw [HHR.out]
    exact ⟨below_setRow ((HV.out.2.2.2.2.setCell (by simp) _).setCell (by simp) _) (by omega) _,by dsimp only;rw [HD.out]⟩
structure Runs (k:Wk) (told:List (List Int)) (m:Int) (Z:List St):Prop where
  len:Z.length=k.C.length
  told:told=Z.map St.stk
  deep:∀ σ∈Z,(σ.stk.length:Int)≤m
  first:∀ σ,Z.head?=some σ→σ.stk=[]∧LeL σ.loc (List.replicate k.loc.toNat 0)
  good:∀ j,j<k.C.length→GoodAt k j (Z.drop j)
theorem runs_of {nT nN nS nM:Nat} {C:List S66} {dep loc:Int} {t:List (List Int)} {m:Int} (h:aZ1 nT nN nS nM C dep loc=.ok (t,m)):0<C.length∧C.length≤32768∧∃ Z,Runs (K0 nT nN nS nM C dep loc) t m Z:=by
 by_cases hD:aZF nT nN nS nM C dep loc
 · rw [fZg hD] at h;cases h
 rw [dZF hD] at h
 split at h
 · cases h
 rename_i hc
 unfold aZF at hD
 refine ⟨by omega,by omega,?_⟩
 unfold runF at h
 obtain ⟨Z,b1,b2,b3,b4,b5,b6,b7⟩:=eZ0 (K0 nT nN nS nM C dep loc) (by show 0≤loc;omega) _ 0 ⟨[],List.replicate loc.toNat 0,false⟩ [] [] 0 t m (Nat.zero_add _) (by simp [K0]) (fun x hx=>by cases hx) h
 exact ⟨Z,b1,by simpa using b2,b4,fun σ hσ=>b5 σ hσ,fun j hj=>by have:=b7 j hj;rwa [Nat.zero_add] at this⟩
end Go.Proofs.Ytbnplhmmbnmagaa.D
