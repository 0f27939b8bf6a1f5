/- The audit's walks: run. -/
import Derived.Test.YtbnplhmmbnmagaazAMm8
import Derived.Test.YtbnplhmmbnmagaazAMm10
import Derived.Deep.DeepCutAuto
import Derived.Deep.RegionLaw
import Derived.WalkMore
import Derived.Deep.LoopGhost
import Derived.Deep.RegionHeld3
set_option maxHeartbeats 4000000
set_option maxRecDepth 100000
set_option linter.all false
namespace Go.Proofs.Ytbnplhmmbnmagaa.D
open Go.RowKit Go.Proofs.YtbnplhmmbnmagaaW.PrintWords Go.Proofs.YtbnplhmmbnmagaaW.PrintLast Go.Proofs.YtbnplhmmbnmagaaW.PrintMore Go.Proofs.Ytbnplhmmbnmagaa.All
def hZP (w0:World) (k:Wk) (r:Except (Int × Int) (List (List Int) × Int)) (e:Ending) (w':World):Prop :=
  match r with
  | .error (i,n)=>e=.returned (.tuple #[.int .i64 i,.int .i64 n])∧Below w0.heap.size w0 w'
  | .ok (told,most)=>e=.returned (.tuple #[.int .i64 0,.int .i64 0])∧Below w0.heap.size w0 w'∧∃ tv,k.blk w' tv most∧Kd.S told2 51 w' w0.heap.size (fun _=>True) tv told
theorem run_any (w0 W:World) (k:Wk) (h:k.blk W (.slice none 0 0) 0) (hB:Below w0.heap.size w0 W) (lg:w0.heap.size≤k.g) (lm:w0.heap.size≤k.m) (hM:MapAt W k.m []) (hR:k165.R 165 W w0.heap.size (fun _=>True) (.slice k.ar 37 k.cr) rowsL) (hC:Kd.C k66 w0 k.a4 k.C.length k.C)
 (hn:k.C.length≤32768) (hc4:k.C.length≤k.c4) (hn0:0<k.C.length) (hd0:0≤k.dep) (hd1:k.dep≤128) (hl0:0≤k.loc) (hl1:k.loc≤1024) :
 Calls Try.prog 55 #[.pointer (some ⟨k.g,0,none⟩)] W (hZP w0 k (runF k)):=by
 generalize hres:runF k=res
 have HRES:=hid_ hres
 clear hres
 obtain ⟨-,-,-,-,q4,-,q6,-,q8,-⟩:=Wk.cells h
 obtain ⟨nl,hnl⟩:=Int.eq_ofNat_of_zero_le hl0
 obtain ⟨ad,-,ha,-⟩:=Kd.C_get hC z66 0 (by omega) (by omega)
 rw [hnl] at q6
 go_enter Try.func55,Try.ntmps55
 go_wp2_with (fail)
 go_step3
 go_upto_region 2 with ((with_reducible refine cZq (N:=16) rfl ?_);refine Kd.R_make (Kd.int .i64) (w0:=W) W.heap.size 73 (N:=16) rfl rfl 51 (.tmp 15) (.tmp 15) rfl (nl:Int) rfl rfl Try.underlying51 (.int .i64 0) 8 info73 rfl (by decide) (by omega) 0 (ok:=fun _=>True) (okp:=fun _=>False) rfl (fun _ h=>h.elim) trivial (by omega) (by rw [Int.toNat_natCast];omega) (Below.refl _ _) (Nat.le_refl _) ?_;intro vl w1 hrl hb1 hg1 hvl;obtain ⟨AL,cL,rfl⟩:=Kd.R_slice hrl)
 rw [Int.toNat_natCast] at hrl hvl
 have hlr:(List.replicate nl (0:Int)).length=nl:=List.length_replicate
 rw [hlr] at hrl hvl
 have hS:Sys w0 (w1.alloc (.cells #[.slice none 0 0,.slice AL nl cL,.bool false] 168)) k ⟨w1.heap.size,.slice none 0 0,.slice AL nl cL⟩ ⟨[],List.replicate nl 0,false⟩ [] [] (.slice none 0 0) 0:=by
  have hb2:Below w1.heap.size w1 (w1.alloc (.cells #[.slice none 0 0,.slice AL nl cL,.bool false] 168)):=aZa (Below.refl _ _) _
  have hb3:=hb1.trans (hb2.mono hb1.size)
  exact ⟨hB.trans (hb3.mono hB.size), (hb3.block _ (aZd h)).trans h, lg, lm, hM.of_block (hb3.block _ hM.lt), (fun x hx => absurd hx List.not_mem_nil),
   ⟨heap_alloc_new _ _,Kd.R_nil _ _ _ _ _,Row.own (Kd.R_lower (Kd.R_below hrl hb2) hB.size),(fun k hk=>by cases hk),Nat.le_trans hB.size hb1.size⟩,
   (fun x hx=>absurd hx List.not_mem_nil),List.Pairwise.nil,Kd.S_nil _ _ _ _ _,Kd.R_below hR hb3,hC,⟨by simp,by simp [hnl],(fun x hx=>absurd hx List.not_mem_nil)⟩⟩
 clear q4 q6 q8 h hM hR hb1 hg1 hrl hvl hlr
 generalize w1.alloc (.cells #[.slice none 0 0,.slice AL nl cL,.bool false] 168)=V at hS ⊢
 generalize w1.heap.size=np at hS ⊢
 obtain ⟨V2,hcl,hM2,hg2⟩:=fZI hS.map 0
 have hS2:=hS.remap hM2 hg2
 obtain ⟨-,-,-,-,-,-,-,-,q8,-⟩:=Wk.cells hS.blk
 go_upto_region 3 with (fail)
 clear hS hcl hM2 hg2 q8
 clear hB V
 have HRUN:Hid (runL k k.C.length 0 ⟨[],List.replicate nl 0,false⟩ [] [] 0=res):=hid_ (by rw [←HRES.out];unfold runF;rw [hnl,Int.toNat_natCast])
 clear HRES
 generalize (List.replicate nl (0:Int))=loc0 at hS2 HRUN
 obtain ⟨-,-,-,-,q4,-⟩:=Wk.cells hS2.blk
 rw [ha] at q4
 go_wp2_with (fail)
 go_step3
 go_wp2_with (fail)
 go_loopw [29,4] (fun i np wr=>∃ (j:Nat) (n:HS) (s:St) (L:List Ent) (told:List (List Int)) (tv:Value) (most:Int),j≤k.C.length∧i=.int .i64 j∧np=.pointer (some ⟨n.p,0,none⟩)∧Sys w0 wr k n s L told tv most∧0≤most∧most≤128∧told.length=j∧Hid (runL k (k.C.length - j) j s (L.map stOf) told most=res)) (fun i _ _=>k.C.length - (intOf i).toNat)
 case atStart=>exact ⟨0,_,_,[],[],_,0,by omega,rfl,rfl,hS2,by omega,by omega,rfl,HRUN⟩
 case round =>
  obtain ⟨j,n,s,L,told,tv,most,hj,rfl,rfl,hS,hm0,hm1,htl,HR⟩:=hrel
  clear q4 hS2 HRUN
  by_cases hlt:j<k.C.length
  ·
   have hCw:=Kd.C_below hC hS.below
   obtain ⟨ad2,ha2,x0,x1,x2,x3⟩:=eZY hCw (j:Int) (by omega) (by omega)
   obtain rfl:ad=ad2:=Option.some.inj (ha.symm.trans ha2)
   rw [Int.toNat_natCast] at x0 x1 x2 x3
   have hd:k.C.length - j=(k.C.length - j - 1)+1:=by omega
   have HR2:=HR.out
   rw [hd] at HR2
   unfold runL at HR2
   have HRL:=hid_ HR2
   clear HR HR2
   generalize hx:aZi k.C (j:Int)=x at x0 x1 x2 x3 HRL
   go_upto_region 6 with (fail)
   clear x0 x1 x2 x3 hCw
   have hbn:Below wr.heap.size wr (wr.alloc (.cells #[.int .i64 x.f0,.int .i64 x.f1,.int .i64 x.f2,.int .i64 x.f3] 66)):=aZa (Below.refl _ _) _
   have hSv:=hS.grow hbn
   have hX:=heap_alloc_new wr (.cells #[.int .i64 x.f0,.int .i64 x.f1,.int .i64 x.f2,.int .i64 x.f3] 66)
   clear hS hbn
   generalize wr.alloc (.cells #[.int .i64 x.f0,.int .i64 x.f1,.int .i64 x.f2,.int .i64 x.f3] 66)=V at hSv hX ⊢
   generalize wr.heap.size=X at hX ⊢
   clear wr
   have hrr:Kd.C k165 V k.ar 37 rowsL:=by
    obtain ⟨A,c,e,-,hc⟩:=Kd.R_reads hSv.rows
    cases e
    exact hc
   go_wp2_with (fail)
   refine (form_any k V tv most hSv.blk (Kd.C_below hC hSv.below) hrr j hlt hn).mono ?_
   rintro e V2 ⟨rfl,hb2⟩
   clear hrr
   have hS3:=hSv.grow hb2
   have hX3:=(hb2.block _ (aZd hX)).trans hX
   clear hSv hX hb2
   clear V
   generalize hfm:bZi k j=fe at HRL
   have hlk:=cZs hS3.map (j:Int)
   rw [eZH] at hlk
   obtain ⟨-,-,-,-,-,-,-,-,q8,-⟩:=Wk.cells hS3.blk
   go_upto_if 46 with (fail)
   go_cut [4,8,9,37,43,44,45,46] (fun s4 s8 s9 s37 s43 s44 s45 s46 wx=>∃ n2:HS,s4=.pointer (some ⟨n2.p,0,none⟩)∧Sys w0 wx k n2 (aZI (L.map stOf) j s) (del L j) told tv most∧wx.heap[X]?=some (.cells #[.int .i64 x.f0,.int .i64 x.f1,.int .i64 x.f2,.int .i64 x.f3] 66 (0,0)))
   case first =>
    cases hlo:look L (j:Int) with
    | none =>
     have hla:look (L.map stOf) (j:Int)=none:=by rw [fZT,hlo];rfl
     have HAR:=hid_ (bZZ (s:=s) hla)
     have HDE:=hid_ (hZH (j:Int) L hlo)
     clear hlk hla
     go_wp2_with (fail)
     go_meet
     exact ⟨n,rfl,by rw [HAR.out,HDE.out];exact hS3,hX3⟩
    | some y =>
     obtain ⟨y,o⟩:=y
     have hla:look (L.map stOf) (j:Int)=some o:=by rw [fZT,hlo];rfl
     have hlh:look (L.map hsOf) (j:Int)=some y:=by rw [eZH,hlo];rfl
     have HAR:=hid_ (bZB (s:=s) hla)
     have hmem:=bZq (j:Int) L _ hlo
     have lo:=hS3.len.2.2 _ hmem
     have ls:=hS3.len
     dsimp only at lo
     have HLO:=hid_ hlo
     have hct:=fun (w:World)=>lead_old k V2 tv most w0.heap.size hS3.blk (L.map hsOf) hS3.map (j:Int) y hlh n s o hS3.now (hS3.sts _ hmem) (hS3.sep1 _ hmem) (by omega) (by omega) (by have:=ls.2.1;omega) (by omega)
     have hct:=hct V2
     clear hlk hla hlh
     go_wp2_with (fail)
     refine hct.mono ?_
     rintro e V3 ⟨rfl,i1,i2,i3⟩
     have hS4:=hS3.lead_old (o2:=aZF o s) HLO.out i1 i2 i3 ⟨lo.1,by rw [show (aZF o s).loc.length=o.loc.length from aZY _ _ (by have:=ls.2.1;omega)];exact lo.2⟩
     have hX4:=(i3 X (aZd hX3) (own_ne_types (hS3.sts _ hmem) hX3 (by decide) (by decide))).trans hX3
     have hlu:=hZy (j:Int) (y,aZF o s) L _ HLO.out
     obtain ⟨V4,hdl,hM4,hg4⟩:=eZ4 hS4.map (j:Int) (by rw [eZH,hlu];simp) 0
     have hS5:=hS4.take hlu hM4 hg4
     have hX5 := (hg4.block X (aZd hX4) (fun e => by
      obtain ⟨es,clk,hb,-⟩:=hS4.map
      rw [←Option.some.inj e,hX4] at hb
      cases hb)).trans hX4
     obtain ⟨-,-,-,-,-,-,-,-,q8,-⟩:=Wk.cells hS4.blk
     rw [del_upd] at hS5
     clear i1 i2 i3 hS4 hX4 hlu hM4 hg4 hS3 hX3 hct
     go_wp2_with (fail)
     go_meet
     exact ⟨y,rfl,by rw [HAR.out];exact hS5,hX5⟩
   case rest =>
    obtain ⟨n2,rfl,hS4,hX4⟩:=hcut
    clear hS3 hX3 hlk q8
    have hdm:del (L.map stOf) (j:Int)=(del L (j:Int)).map stOf:=fZY (fun x:HS × St=>x.2) (j:Int) L
    rw [hdm] at HRL
    clear hdm
    generalize aZI (L.map stOf) (j:Int) s=s1 at hS4 HRL
    generalize del L (j:Int)=L1 at hS4 HRL
    clear L s
    obtain ⟨c0,-,c2,-,-⟩:=hS4.now.cells
    by_cases hfe:fe=0
    ·
     subst hfe
     cases hjn:s1.joined with
     | true =>
      have HE:Hid (res=.error ((j:Int),218)):=hid_ (by rw [←HRL.out,if_neg (by simp),if_pos hjn])
      have hBE:=hS4.below
      rw [hjn] at c2
      go_wp2_with (fail)
      try rw [Exit.noGoto_ret]
      go_ret2
      rw [HE.out]
      exact ⟨rfl,hBE⟩
     | false =>
      have HRS := hid_ (show (match aZ2 k.dep (aZg rowsL x.f0) x s1 with
       | .error e=>Except.error ((j:Int),e)
       | .ok s2 =>
        if x.f0=33∨x.f0=34 then runL k (k.C.length - j - 1) (j+1) s2 (dZy (L1.map stOf) x.f1 s2) (told++[s1.stk]) (max most s1.stk.length)
        else if x.f0=36 then .ok (told++[s1.stk],max most s1.stk.length)
        else runL k (k.C.length - j - 1) (j+1) s2 (L1.map stOf) (told++[s1.stk]) (max most s1.stk.length))=res by
       rw [←HRL.out,if_neg (by simp),if_neg (by rw [hjn];decide)]
       first|done|rfl)
      rw [hjn] at c2
      go_upto_region 16 with (fail)
      obtain ⟨Ac,cc,ec,kc,rc⟩:=Kd.R_reads hS4.now.stk
      obtain ⟨At,ct,et⟩:=Kd.S_slice hS4.told
      obtain rfl:=et
      rw [ec] at c0
      obtain ⟨-,-,-,-,-,-,-,-,-,q9,-,z9,-⟩:=Wk.cells hS4.blk
      rw [htl] at q9
      have hcl:=gZH wc.drew Ac cc s1.stk rc kc (by have:=hS4.len.1;omega)
      have htl2:(told.length+1)*24≤140737488355328:=by omega
      have HS4:=hid_ hS4
      have HX4:=hid_ hX4
      go_cut [] (fun wx=>∃ tv2:Value,Sys w0 wx k n2 s1 L1 (told++[s1.stk]) tv2 most∧wx.heap[X]?=some (.cells #[.int .i64 x.f0,.int .i64 x.f1,.int .i64 x.f2,.int .i64 x.f3] 66 (0,0)))
      case first =>
       go_region_law (first
        | ((go_simp;go_at_call 94;(with_reducible refine hcl.mono ?_);rintro e w8 ⟨vc,rfl,hv8,bel8⟩;obtain ⟨A8,c8,rfl⟩:=Kd.R_slice hv8;have bel9:=aZo bel8 (Nat.le_refl _);have hS8:=hS4.grow bel9;have v9:=(bel9.cell (aZG q9)).trans q9;have v10:∀ o:Obj,(w8.alloc o).cell? ⟨k.g,9,none⟩=some (.slice At j ct):=fun o=>((aZa (Below.refl w8.heap.size w8) o).cell (aZG v9)).trans v9))
        | (refine Kd.S_append_step told2 (w0:=w8) w0.heap.size (by rfl) (.tmp 72) (.tmp 78) 44 51 (.slice none 0 0) 24 rfl Try.underlying44 info51 rfl (by decide) (by omega) (.slice At j ct) told s1.stk [.slice A8 s1.stk.length c8] (fun q=>¬n2.own q∧∀ x∈L1,¬x.2.1.own q) (fun q=>wc.heap.size≤q) rfl rfl (Kd.M_row (Kd.R_mono (Kd.R_lower (Kd.R_bound hv8) HS4.out.below.size) (fun _ hk=>hk.2.1))) (fun q hq=>⟨HS4.out.fresh hq,fun e=>by have:=(cZc HS4.out.told (by rw [htl];exact e.symm)).2.1;omega⟩) (fun q hq=>hS8.fresh hq) (htl▸Kd.S_mono (Kd.S_old HS4.out.told bel9) (fun q hq=>⟨hq.1,by have:=hq.2;show ¬wc.heap.size≤q;omega⟩)) (Below.refl _ _) hS8.below.size htl2 ?_;intro vv w1 hrow1 hb1 hg1 hv1;obtain ⟨A2,c2,rfl⟩:=Kd.S_slice hrow1;have hg2:w8.grownBy w1 (Value.slice At told.length ct).ownBlock:=(htl▸hg1);obtain ⟨-,-,-,-,-,-,-,-,-,q91,-,z91,-⟩:=Wk.cells (hS8.g_cells hg2)))
       all_goals
        go_wp2_with (fail)
        go_meet
        have hP:=hS8.told_push hrow1 hg2 0
        have hPX:=hS8.told_x ((bel9.block X (aZd HX4.out)).trans HX4.out) (by decide) (by decide) hg2 0 9 (Value.slice A2 (told++[s1.stk]).length c2)
        rw [show (told++[s1.stk]).length=j+1 by rw [List.length_append,htl];rfl] at hP hPX
        exact ⟨_,hP,hPX⟩
      case rest =>
       obtain ⟨tv2,hS5,hX5⟩:=hcut
       clear hS4 hX4 HS4 HX4 hcl q9 z9 c0 c2
       obtain ⟨Ac,cc,ec,-,-⟩:=Kd.R_reads hS5.now.stk
       obtain ⟨c0,-,-,-,-⟩:=hS5.now.cells
       rw [ec] at c0
       obtain ⟨-,-,-,-,-,-,-,-,-,-,q10,-,z10⟩:=Wk.cells hS5.blk
       go_upto_region 17 with (fail)
       have HS5:=hid_ hS5
       have HX5:=hid_ hX5
       go_cut [] (fun wx=>Sys w0 wx k n2 s1 L1 (told++[s1.stk]) tv2 (max most s1.stk.length)∧wx.heap[X]?=some (.cells #[.int .i64 x.f0,.int .i64 x.f1,.int .i64 x.f2,.int .i64 x.f3] 66 (0,0)))
       case first =>
        by_cases hmx:most<(s1.stk.length:Int)
        ·
         have hm:max most (s1.stk.length:Int)=s1.stk.length:=by omega
         have HM:=hid_ hm
         have dm:¬(s1.stk.length:Int)≤most:=by omega
         clear hm
         go_region
         all_goals
          go_wp2_with (fail)
          go_meet
          exact ⟨by rw [HM.out];exact HS5.out.most_set _ 1,HS5.out.told_x HX5.out (by decide) (by decide) (aZ0 (Below.refl _ _) _) 1 10 _⟩
        ·
         have hm:max most (s1.stk.length:Int)=most:=by omega
         have HM:=hid_ hm
         have dm:(s1.stk.length:Int)≤most:=by omega
         clear hm
         go_region
         all_goals
          go_wp2_with (fail)
          go_meet
          exact ⟨by rw [HM.out];exact HS5.out.most_set _ 1,HS5.out.told_x HX5.out (by decide) (by decide) (aZ0 (Below.refl _ _) _) 1 10 _⟩
       case rest =>
        obtain ⟨hS6,hX6⟩:=hcut
        clear hS5 hX5 HS5 HX5 c0 q10 z10
        have hm2:0≤max most (s1.stk.length:Int)∧max most (s1.stk.length:Int)≤128:=by have:=hS6.len.1;omega
        have HM2:=hid_ hm2
        clear hm2
        generalize max most (s1.stk.length:Int)=most2 at hS6 HRS HM2
        have htl3:(told++[s1.stk]).length=j+1:=by rw [List.length_append,htl];rfl
        have HTL:=hid_ htl3
        clear htl3
        generalize told++[s1.stk]=told2' at hS6 HRS HTL
        obtain ⟨o1,o2,oA⟩:=formF_ok hfm
        have hx2:aZi k.C (j:Int)=x:=hx
        rw [hx2] at o1 o2 oA
        have hrr:Kd.C k165 wc k.ar 37 rowsL:=by
         obtain ⟨A,c,e,-,hc⟩:=Kd.R_reads hS6.rows
         cases e
         exact hc
        have hst:=step_any k wc tv2 most2 w0.heap.size hS6.blk hrr n2 s1 hS6.now x o1 o2 (by have:=hS6.len.1;omega) (by have:=hS6.len.2.1;omega) (fun h=>by have:=oA h;have:=hS6.len.2.1;omega) hS6.below.size
        have y0:wc.cell? ⟨X,0,none⟩=some (.int .i64 x.f0):=by simp [World.cell?,hX6]
        have y1:wc.cell? ⟨X,1,none⟩=some (.int .i64 x.f1):=by simp [World.cell?,hX6]
        have y2:wc.cell? ⟨X,2,none⟩=some (.int .i64 x.f2):=by simp [World.cell?,hX6]
        have y3:wc.cell? ⟨X,3,none⟩=some (.int .i64 x.f3):=by simp [World.cell?,hX6]
        clear oA hrr hfm hx hx2
        cases hsf:aZ2 k.dep (aZg rowsL x.f0) x s1 with
        | error e2 =>
         have he2:=fZ6 hsf
         rw [hsf] at hst HRS
         have HE:Hid (res=.error ((j:Int),e2)):=hid_ HRS.out.symm
         have de2:(e2 != 0)=true:=by simpa using he2
         have de3:(e2 == 0)=false:=by simpa using he2
         have hBE:=hS6.below
         clear HRS hsf he2
         go_wp2_with (fail)
         refine hst.mono ?_
         rintro e W7 ⟨rfl,b7⟩
         go_wp2_with (fail)
         try rw [Exit.noGoto_ret]
         go_ret2
         rw [HE.out]
         exact ⟨rfl,hBE.trans b7⟩
        | ok s2 =>
         rw [hsf] at hst HRS
         obtain ⟨sl1,sl2⟩:=stepF_len hsf
         have HSL:Hid (s2.stk.length≤128∧(s2.loc.length:Int)=k.loc):=hid_ ⟨by omega,by have:=hS6.len.2.1;omega⟩
         clear sl1 sl2 hsf
         go_wp2_with (fail)
         refine hst.mono ?_
         rintro e W7 ⟨rfl,b7,n3,hn3,i3,o3,f3⟩
         have hS7:=hS6.step b7 f3 i3 o3 HSL.out
         have hX7:=(f3 X (aZd hX6) (own_ne_types hS6.now hX6 (by decide) (by decide))).trans hX6
         rw [←hn3]
         clear hn3
         clear b7 i3 o3 f3 hS6 hX6 y0 y1 y2 y3 hst
         have y0:W7.cell? ⟨X,0,none⟩=some (.int .i64 x.f0):=by simp [World.cell?,hX7]
         have y1:W7.cell? ⟨X,1,none⟩=some (.int .i64 x.f1):=by simp [World.cell?,hX7]
         by_cases hj33:x.f0=33∨x.f0=34
         ·
          have hrs:=HRS.out
          rw [if_pos hj33] at hrs
          have HR2:=hid_ hrs
          have ej:((x.f0 == 33)=true)∨((x.f0 == 33)=false∧(x.f0 == 34)=true):=by rcases hj33 with h|h <;> simp [h]
          clear hrs hj33 HRS
          cases hlk:look L1 x.f1 with
          | none =>
           have hlh:look (L1.map hsOf) x.f1=none:=by rw [eZH,hlk];rfl
           have hc:=lead_new k W7 tv2 most2 w0.heap.size hS7.blk (L1.map hsOf) hS7.map x.f1 hlh n3 s2 hS7.now (by have:=hS7.len.1;omega) (by have:=hS7.len.2.1;omega)
           have HLK:=hid_ hlk
           clear hlh hlk
           rcases ej with e33 | ⟨e33,e34⟩
           all_goals
            go_wp2_with (fail)
            with_reducible refine hc.mono ?_
            rintro e W8 ⟨rfl,y,m8,i8,g8,o8⟩
            have hS8:=hS7.lead_new m8 i8 g8 o8
            clear m8 i8 g8 o8
            go_wp2_with (fail)
            go_roundw
            case rel=>exact ⟨j+1,n3,s2,_,told2',tv2,most2,by omega,by go_num,rfl,hS8,HM2.out.1,HM2.out.2,HTL.out,hid_ (by rw [←leadF_new HLK.out,Nat.sub_add_eq];exact HR2.out)⟩
            case measure=>simp [intOf];omega
          | some yo =>
           obtain ⟨y,o⟩:=yo
           have hlh:look (L1.map hsOf) x.f1=some y:=by rw [eZH,hlk];rfl
           have hmem:=bZq x.f1 L1 _ hlk
           have lo:=hS7.len.2.2 _ hmem
           dsimp only at lo
           have ls:=hS7.len
           have hc:=lead_old k W7 tv2 most2 w0.heap.size hS7.blk (L1.map hsOf) hS7.map x.f1 y hlh n3 s2 o hS7.now (hS7.sts _ hmem) (hS7.sep1 _ hmem) (by omega) (by omega) (by have:=ls.2.1;omega) (by omega)
           have HLK:=hid_ hlk
           clear hlh hlk
           rcases ej with e33 | ⟨e33,e34⟩
           all_goals
            go_wp2_with (fail)
            with_reducible refine hc.mono ?_
            rintro e W8 ⟨rfl,i1,i2,i3⟩
            have hS8:=hS7.lead_old (o2:=aZF o s2) HLK.out i1 i2 i3 ⟨lo.1,by rw [show (aZF o s2).loc.length=o.loc.length from aZY _ _ (by have:=ls.2.1;omega)];exact lo.2⟩
            clear i1 i2 i3
            go_wp2_with (fail)
            go_roundw
            case rel=>exact ⟨j+1,n3,s2,_,told2',tv2,most2,by omega,by go_num,rfl,hS8,HM2.out.1,HM2.out.2,HTL.out,hid_ (by rw [←leadF_old HLK.out,Nat.sub_add_eq];exact HR2.out)⟩
            case measure=>simp [intOf];omega
         ·
          have e33:(x.f0 == 33)=false:=by rw [beq_eq_false_iff_ne];omega
          have e34:(x.f0 == 34)=false:=by rw [beq_eq_false_iff_ne];omega
          have hrs:=HRS.out
          rw [if_neg hj33] at hrs
          by_cases h36:x.f0=36
          ·
           have e36:(x.f0 == 36)=true:=by rw [beq_iff_eq];exact h36
           rw [if_pos h36] at hrs
           have HE:=hid_ hrs
           clear hrs HRS hj33 h36
           have hEnd:hZP w0 k res (.returned (.tuple #[.int .i64 0,.int .i64 0])) W7:=by
            rw [←HE.out]
            exact ⟨rfl,hS7.below,tv2,hS7.blk,Kd.S_mono hS7.told (fun _ _=>trivial)⟩
           go_wp2_with (fail)
           try rw [Exit.noGoto_ret]
           go_ret2
           exact hEnd
          ·
           have e36:(x.f0 == 36)=false:=by rw [beq_eq_false_iff_ne];exact h36
           rw [if_neg h36] at hrs
           have HR2:=hid_ hrs
           clear hrs HRS hj33 h36
           go_wp2_with (fail)
           go_roundw
           case rel=>exact ⟨j+1,n3,s2,L1,told2',tv2,most2,by omega,by go_num,rfl,hS7,HM2.out.1,HM2.out.2,HTL.out,hid_ (by rw [Nat.sub_add_eq];exact HR2.out)⟩
           case measure=>simp [intOf];omega
    ·
     have HE:Hid (res=.error ((j:Int),fe)):=hid_ (by rw [←HRL.out,if_pos hfe])
     have hBE:=hS4.below
     have dfe:(fe != 0)=true:=by simpa using hfe
     have dfe2:(fe == 0)=false:=by simpa using hfe
     clear hfe
     go_wp2_with (fail)
     try rw [Exit.noGoto_ret]
     go_ret2
     rw [HE.out]
     exact ⟨rfl,hBE⟩
  ·
   have hres:Except.ok (told,most)=res:=by
    have:=HR.out
    rw [show k.C.length - j=0 by omega] at this
    exact this
   have hEnd:hZP w0 k res (.returned (.tuple #[.int .i64 0,.int .i64 0])) wr:=by
    rw [←hres]
    exact ⟨rfl,hS.below,tv,hS.blk,Kd.S_mono hS.told (fun _ _=>trivial)⟩
   have hge:¬(j:Int)<(k.C.length:Int):=by omega
   clear hres HR hlt
   go_wp2_with (fail)
   try rw [Exit.noGoto_ret]
   go_ret2
   exact hEnd
def K0 (nT nN nS nM:Nat) (C:List S66) (dep loc:Int):Wk:=⟨none,none,none,none,none,none,0,0,0,0,0,0,nT,nN,nS,nM,C,dep,loc,0,0⟩
theorem fZ8 (a0 a1 a2 a3 a4 ar:Option Addr) (c0 c1 c2 c3 c4 cr nT nN nS nM:Nat) (C:List S66) (dep loc:Int) (g m:Nat):∀ (d i:Nat) (s:St) (M:List (Int × St)) (told:List (List Int)) (most:Int),
    runL ⟨a0,a1,a2,a3,a4,ar,c0,c1,c2,c3,c4,cr,nT,nN,nS,nM,C,dep,loc,g,m⟩ d i s M told most=runL (K0 nT nN nS nM C dep loc) d i s M told most
  | 0,_,_,_,_,_=>rfl
  | d+1,i,s,M,told,most=>by
    unfold runL
    have e:∀ j,bZi ⟨a0,a1,a2,a3,a4,ar,c0,c1,c2,c3,c4,cr,nT,nN,nS,nM,C,dep,loc,g,m⟩ j=bZi (K0 nT nN nS nM C dep loc) j:=fun _=>rfl
    simp only [e,fZ8 a0 a1 a2 a3 a4 ar c0 c1 c2 c3 c4 cr nT nN nS nM C dep loc g m d]
    rfl
theorem runF_data (a0 a1 a2 a3 a4 ar:Option Addr) (c0 c1 c2 c3 c4 cr nT nN nS nM:Nat) (C:List S66) (dep loc:Int) (g m:Nat):runF ⟨a0,a1,a2,a3,a4,ar,c0,c1,c2,c3,c4,cr,nT,nN,nS,nM,C,dep,loc,g,m⟩=runF (K0 nT nN nS nM C dep loc):=fZ8 _ _ _ _ _ _ _ _ _ _ _ _ _ _ _ _ _ _ _ _ _ _ _ _ _ _ _
def aZB (nT nN nS nM:Nat) (C:List S66) (dep loc:Int):Prop:=32768<C.length∨dep<0∨128<dep∨loc<0∨1024<loc∨4096<nT+nN+nS+nM
noncomputable def aZT (nT nN nS nM:Nat) (C:List S66) (dep loc:Int):Except (Int × Int) (List (List Int) × Int) :=
  @ite _ (aZB nT nN nS nM C dep loc) (Classical.propDecidable _) (.error (-1,210)) (if C.length=0 then .error (0,219) else runF (K0 nT nN nS nM C dep loc))
def AuditEnd (w:World) (r:Except (Int × Int) (List (List Int) × Int)) (e:Ending) (w':World):Prop :=
  match r with
  | .error (i,n)=>∃ F,e=.returned (.tuple #[.pointer none,.iface 95 (.pointer (some ⟨F,0,none⟩))])∧w.heap.size≤F∧w'.heap[F]?=some (.cells #[.int .i64 n,.int .i64 i,.string ⟨#[]⟩,.nilIface] 98 (0,0))∧Below w.heap.size w w'
  | .ok (told,most)=>∃ (k:Wk) (tv:Value),e=.returned (.tuple #[.pointer (some ⟨k.g,0,none⟩),.nilIface])∧k.blk w' tv most∧Kd.S told2 51 w' w.heap.size (fun _=>True) tv told∧Below w.heap.size w w'
theorem AuditEnd.err {w W:World} {r:Except (Int × Int) (List (List Int) × Int)} {i n:Int} (h:r=.error (i,n)) (hB:Below w.heap.size w W):AuditEnd w r (.returned (.tuple #[.pointer none,.iface 95 (.pointer (some ⟨W.heap.size,0,none⟩))])) (W.alloc (.cells #[.int .i64 n,.int .i64 i,.string ⟨#[]⟩,.nilIface] 98)):=by
  subst h
  exact ⟨_,rfl,hB.size,heap_alloc_new _ _,aZa hB _⟩
theorem AuditEnd.err1 (w:World) (o:Obj) {r:Except (Int × Int) (List (List Int) × Int)} {i n:Int} (h:r=.error (i,n)):AuditEnd w r (.returned (.tuple #[.pointer none,.iface 95 (.pointer (some ⟨w.heap.size+1,0,none⟩))])) ((w.alloc o).alloc (.cells #[.int .i64 n,.int .i64 i,.string ⟨#[]⟩,.nilIface] 98)):=by
  have h2:=AuditEnd.err (W:=w.alloc o) h (aZa (Below.refl w.heap.size w) o)
  rw [World.size_alloc] at h2
  exact h2
theorem keep7 {W1 W2:World} {b:Nat} {v0 v1 v2 v3 v4 v5 v6:Value} (h:W1.cell? ⟨b,0,none⟩=some v0∧W1.cell? ⟨b,1,none⟩=some v1∧W1.cell? ⟨b,2,none⟩=some v2∧W1.cell? ⟨b,3,none⟩=some v3∧W1.cell? ⟨b,4,none⟩=some v4∧W1.cell? ⟨b,5,none⟩=some v5∧W1.cell? ⟨b,6,none⟩=some v6) (hb:Below W1.heap.size W1 W2) :
    W2.cell? ⟨b,0,none⟩=some v0∧W2.cell? ⟨b,1,none⟩=some v1∧W2.cell? ⟨b,2,none⟩=some v2∧W2.cell? ⟨b,3,none⟩=some v3∧W2.cell? ⟨b,4,none⟩=some v4∧W2.cell? ⟨b,5,none⟩=some v5∧W2.cell? ⟨b,6,none⟩=some v6:=by
  obtain ⟨h0,h1,h2,h3,h4,h5,h6⟩:=h
  exact ⟨(hb.cell (aZG h0)).trans h0,(hb.cell (aZG h1)).trans h1,(hb.cell (aZG h2)).trans h2,(hb.cell (aZG h3)).trans h3,(hb.cell (aZG h4)).trans h4,(hb.cell (aZG h5)).trans h5,(hb.cell (aZG h6)).trans h6⟩
theorem hZo {w V:World} {A0 A1 A2 A3 A4 ar:Option Addr} {c0 c1 c2 c3 c4 cr nT nN nS nM m:Nat} {C:List S66} {dep loc:Int} (hB:Below w.heap.size w V) (hm:V.heap[m]?=some (.map #[] 0)) (lm:w.heap.size≤m) (hr:k165.R 165 V w.heap.size (fun _=>True) (.slice ar rowsL.length cr) rowsL) :
    ∃ (ar2:Option Addr) (cr2 g m2:Nat),Value.pointer (some ⟨V.heap.size,0,none⟩)=.pointer (some ⟨g,0,none⟩)∧Wk.blk ⟨A0,A1,A2,A3,A4,ar2,c0,c1,c2,c3,c4,cr2,nT,nN,nS,nM,C,dep,loc,g,m2⟩ (V.alloc (.cells #[.slice A0 nT c0,.slice A1 nN c1,.slice A2 nS c2,.slice A3 nM c3,.slice A4 C.length c4,.int .i64 dep,.int .i64 loc,.slice ar rowsL.length cr,.map (some m),.slice none 0 0,.int .i64 0] 89)) (.slice none 0 0) 0∧w.heap.size≤g∧w.heap.size≤m2 ∧
      MapAt (V.alloc (.cells #[.slice A0 nT c0,.slice A1 nN c1,.slice A2 nS c2,.slice A3 nM c3,.slice A4 C.length c4,.int .i64 dep,.int .i64 loc,.slice ar rowsL.length cr,.map (some m),.slice none 0 0,.int .i64 0] 89)) m2 [] ∧
      k165.R 165 (V.alloc (.cells #[.slice A0 nT c0,.slice A1 nN c1,.slice A2 nS c2,.slice A3 nM c3,.slice A4 C.length c4,.int .i64 dep,.int .i64 loc,.slice ar rowsL.length cr,.map (some m),.slice none 0 0,.int .i64 0] 89)) w.heap.size (fun _=>True) (.slice ar2 37 cr2) rowsL ∧
      Below w.heap.size w (V.alloc (.cells #[.slice A0 nT c0,.slice A1 nN c1,.slice A2 nS c2,.slice A3 nM c3,.slice A4 C.length c4,.int .i64 dep,.int .i64 loc,.slice ar rowsL.length cr,.map (some m),.slice none 0 0,.int .i64 0] 89)):=by
  have hn:=heap_alloc_new V (.cells #[.slice A0 nT c0,.slice A1 nN c1,.slice A2 nS c2,.slice A3 nM c3,.slice A4 C.length c4,.int .i64 dep,.int .i64 loc,.slice ar rowsL.length cr,.map (some m),.slice none 0 0,.int .i64 0] 89)
  have hb:Below V.heap.size V (V.alloc (.cells #[.slice A0 nT c0,.slice A1 nN c1,.slice A2 nS c2,.slice A3 nM c3,.slice A4 C.length c4,.int .i64 dep,.int .i64 loc,.slice ar rowsL.length cr,.map (some m),.slice none 0 0,.int .i64 0] 89)):=aZa (Below.refl _ _) _
  have hr2:=Kd.R_below hr hb
  rw [rowsL_len] at hn hb hr2 ⊢
  exact ⟨ar,cr,_,m,rfl,hn,hB.size,lm,⟨#[],0,(hb.block _ (aZd hm)).trans hm,rfl⟩,hr2,hB.trans (hb.mono hB.size)⟩
theorem fZK (k:Wk):∀ (d i:Nat) (s:St) (M:List (Int × St)) (told:List (List Int)) (most:Int) {j n:Int},runL k d i s M told most=.error (j,n)→n≠0
  | 0,_,_,_,_,_,_,_,h=>by cases h
  | d+1,i,s,M,told,most,j,n,h=>by
    unfold runL at h
    split at h
    · rename_i hf
      simp only [Except.error.injEq,Prod.mk.injEq] at h
      rw [←h.2];exact hf
    split at h
    · simp only [Except.error.injEq,Prod.mk.injEq] at h
      omega
    split at h
    · rename_i e he
      simp only [Except.error.injEq,Prod.mk.injEq] at h
      rw [←h.2];exact fZ6 he
    · split at h
      · exact fZK k d _ _ _ _ _ h
      split at h
      · cases h
      · exact fZK k d _ _ _ _ _ h
theorem eZ8 {nT nN nS nM:Nat} {C:List S66} {dep loc:Int} (h:aZB nT nN nS nM C dep loc):aZT nT nN nS nM C dep loc=.error (-1,210):=if_pos h
theorem iZt {nT nN nS nM:Nat} {C:List S66} {dep loc:Int} (h:¬aZB nT nN nS nM C dep loc) (h2:C.length=0):aZT nT nN nS nM C dep loc=.error (0,219):=by
  unfold aZT;rw [if_neg h,if_pos h2]
theorem audit_run {nT nN nS nM:Nat} {C:List S66} {dep loc:Int} (h:¬aZB nT nN nS nM C dep loc) (h2:¬C.length=0):aZT nT nN nS nM C dep loc=runF (K0 nT nN nS nM C dep loc):=by
  unfold aZT;rw [if_neg h,if_neg h2]
theorem fZ2 (w:World) (A0 A1 A2 A3 A4:Option Addr) (c0 c1 c2 c3 c4 nT nN nS nM:Nat) (C:List S66) (dep loc:Int) (hC:Kd.C k66 w A4 C.length C) (hc4:C.length≤c4) (l0:nT≤140737488355328) (l1:nN≤140737488355328) (l2:nS≤140737488355328) (l3:nM≤140737488355328) (l4:C.length≤140737488355328) (h:aZB nT nN nS nM C dep loc) :
 Calls Try.prog 30 #[.agg #[.slice A0 nT c0,.slice A1 nN c1,.slice A2 nS c2,.slice A3 nM c3,.slice A4 C.length c4,.int .i64 dep,.int .i64 loc]] w (AuditEnd w (aZT nT nN nS nM C dep loc)):=by
 generalize hres:aZT nT nN nS nM C dep loc=res
 have HE:=hid_ (hres.symm.trans (eZ8 h))
 clear hres
 have H:=hid_ h
 clear h
 by_cases h0:32768<C.length
 ·
  have d0:decide ((C.length:Int) > 32768)=true:=decide_eq_true (by omega)
  clear h0
  go_enter Try.func30,Try.ntmps30
  go_wp2_with (fail)
  go_ret2
  exact AuditEnd.err1 _ _ HE.out
 have d0:decide ((C.length:Int) > 32768)=false:=decide_eq_false (by omega)
 by_cases h1:dep<0
 ·
  have d1:decide (dep<0)=true:=decide_eq_true (by omega)
  clear h0 h1
  go_enter Try.func30,Try.ntmps30
  go_wp2_with (fail)
  go_ret2
  exact AuditEnd.err1 _ _ HE.out
 have d1:decide (dep<0)=false:=decide_eq_false (by omega)
 by_cases h2:128<dep
 ·
  have d2:decide (dep > 128)=true:=decide_eq_true (by omega)
  clear h0 h1 h2
  go_enter Try.func30,Try.ntmps30
  go_wp2_with (fail)
  go_ret2
  exact AuditEnd.err1 _ _ HE.out
 have d2:decide (dep > 128)=false:=decide_eq_false (by omega)
 by_cases h3:loc<0
 ·
  have d3:decide (loc<0)=true:=decide_eq_true (by omega)
  clear h0 h1 h2 h3
  go_enter Try.func30,Try.ntmps30
  go_wp2_with (fail)
  go_ret2
  exact AuditEnd.err1 _ _ HE.out
 have d3:decide (loc<0)=false:=decide_eq_false (by omega)
 by_cases h4:1024<loc
 ·
  have d4:decide (loc > 1024)=true:=decide_eq_true (by omega)
  clear h0 h1 h2 h3 h4
  go_enter Try.func30,Try.ntmps30
  go_wp2_with (fail)
  go_ret2
  exact AuditEnd.err1 _ _ HE.out
 have d4:decide (loc > 1024)=false:=decide_eq_false (by omega)
 have h5:4096<nT+nN+nS+nM:=by
  rcases H.out with h|h|h|h|h|h
  · exact absurd h h0
  · exact absurd h h1
  · exact absurd h h2
  · exact absurd h h3
  · exact absurd h h4
  · exact h
 have d5:decide ((nT:Int)+(nN:Int)+(nS:Int)+(nM:Int) > 4096)=true:=decide_eq_true (by omega)
 clear h0 h1 h2 h3 h4 h5
 go_enter Try.func30,Try.ntmps30
 go_wp2_with (fail)
 go_ret2
 exact AuditEnd.err1 _ _ HE.out
theorem hZj (w:World) (A0 A1 A2 A3 A4:Option Addr) (c0 c1 c2 c3 c4 nT nN nS nM:Nat) (C:List S66) (dep loc:Int) (hC:Kd.C k66 w A4 C.length C) (hc4:C.length≤c4) (l0:nT≤140737488355328) (l1:nN≤140737488355328) (l2:nS≤140737488355328) (l3:nM≤140737488355328) (l4:C.length≤140737488355328) (h:¬aZB nT nN nS nM C dep loc) (h2:C.length=0) :
 Calls Try.prog 30 #[.agg #[.slice A0 nT c0,.slice A1 nN c1,.slice A2 nS c2,.slice A3 nM c3,.slice A4 C.length c4,.int .i64 dep,.int .i64 loc]] w (AuditEnd w (aZT nT nN nS nM C dep loc)):=by
 generalize hres:aZT nT nN nS nM C dep loc=res
 have HE:=hid_ (hres.symm.trans (iZt h h2))
 have g0:¬ 32768<C.length:=fun e=>h (.inl e)
 have g1:¬dep<0:=fun e=>h (.inr (.inl e))
 have g2:¬ 128<dep:=fun e=>h (.inr (.inr (.inl e)))
 have g3:¬loc<0:=fun e=>h (.inr (.inr (.inr (.inl e))))
 have g4:¬ 1024<loc:=fun e=>h (.inr (.inr (.inr (.inr (.inl e)))))
 have g5:¬ 4096<nT+nN+nS+nM:=fun e=>h (.inr (.inr (.inr (.inr (.inr e)))))
 have d0:decide ((C.length:Int) > 32768)=false:=decide_eq_false (by omega)
 have d1:decide (dep<0)=false:=decide_eq_false (by omega)
 have d2:decide (dep > 128)=false:=decide_eq_false (by omega)
 have d3:decide (loc<0)=false:=decide_eq_false (by omega)
 have d4:decide (loc > 1024)=false:=decide_eq_false (by omega)
 have d5:decide ((nT:Int)+(nN:Int)+(nS:Int)+(nM:Int) > 4096)=false:=decide_eq_false (by omega)
 have e0:((C.length:Int) == 0)=true:=by rw [beq_iff_eq];omega
 clear hres h h2 g0 g1 g2 g3 g4 g5
 go_enter Try.func30,Try.ntmps30
 go_wp2_with (fail)
 go_ret2
 exact AuditEnd.err1 _ _ HE.out
theorem iZs (w:World) (A0 A1 A2 A3 A4:Option Addr) (c0 c1 c2 c3 c4 nT nN nS nM:Nat) (C:List S66) (dep loc:Int) (hC:Kd.C k66 w A4 C.length C) (hc4:C.length≤c4) (l0:nT≤140737488355328) (l1:nN≤140737488355328) (l2:nS≤140737488355328) (l3:nM≤140737488355328) (l4:C.length≤140737488355328) (h:¬aZB nT nN nS nM C dep loc) (h2:¬C.length=0) :
 Calls Try.prog 30 #[.agg #[.slice A0 nT c0,.slice A1 nN c1,.slice A2 nS c2,.slice A3 nM c3,.slice A4 C.length c4,.int .i64 dep,.int .i64 loc]] w (AuditEnd w (aZT nT nN nS nM C dep loc)):=by
 generalize hres:aZT nT nN nS nM C dep loc=res
 have HE:=hid_ (hres.symm.trans (audit_run h h2))
 have g0:¬ 32768<C.length:=fun e=>h (.inl e)
 have g1:¬dep<0:=fun e=>h (.inr (.inl e))
 have g2:¬ 128<dep:=fun e=>h (.inr (.inr (.inl e)))
 have g3:¬loc<0:=fun e=>h (.inr (.inr (.inr (.inl e))))
 have g4:¬ 1024<loc:=fun e=>h (.inr (.inr (.inr (.inr (.inl e)))))
 have g5:¬ 4096<nT+nN+nS+nM:=fun e=>h (.inr (.inr (.inr (.inr (.inr e)))))
 have d0:decide ((C.length:Int) > 32768)=false:=decide_eq_false (by omega)
 have d1:decide (dep<0)=false:=decide_eq_false (by omega)
 have d2:decide (dep > 128)=false:=decide_eq_false (by omega)
 have d3:decide (loc<0)=false:=decide_eq_false (by omega)
 have d4:decide (loc > 1024)=false:=decide_eq_false (by omega)
 have d5:decide ((nT:Int)+(nN:Int)+(nS:Int)+(nM:Int) > 4096)=false:=decide_eq_false (by omega)
 have e0:((C.length:Int) == 0)=false:=by rw [beq_eq_false_iff_ne];omega
 have H2:=hid_ h2
 have G:=hid_ (And.intro (show C.length≤32768 by omega) (And.intro (show 0≤dep∧dep≤128 by omega) (show 0≤loc∧loc≤1024 by omega)))
 have HC:=hid_ hC
 clear hres h h2 g0 g1 g2 g3 g4 g5 hC
 go_enter Try.func30,Try.ntmps30
 have hB1:Below w.heap.size w (w.alloc (.cells #[.slice A0 nT c0,.slice A1 nN c1,.slice A2 nS c2,.slice A3 nM c3,.slice A4 C.length c4,.int .i64 dep,.int .i64 loc] 28)):=aZa (Below.refl _ _) _
 have hx:=heap_alloc_new w (.cells #[.slice A0 nT c0,.slice A1 nN c1,.slice A2 nS c2,.slice A3 nM c3,.slice A4 C.length c4,.int .i64 dep,.int .i64 loc] 28)
 go_upto_region 6 with (fail)
 clear d0 d1 d2 d3 d4 d5 e0
 generalize (w.alloc (.cells #[.slice A0 nT c0,.slice A1 nN c1,.slice A2 nS c2,.slice A3 nM c3,.slice A4 C.length c4,.int .i64 dep,.int .i64 loc] 28))=W1 at hB1 hx ⊢
 obtain ⟨y0,y1,y2,y3,y4,y5,y6⟩:W1.cell? ⟨w.heap.size,0,none⟩=some (.slice A0 nT c0)∧W1.cell? ⟨w.heap.size,1,none⟩=some (.slice A1 nN c1)∧W1.cell? ⟨w.heap.size,2,none⟩=some (.slice A2 nS c2)∧W1.cell? ⟨w.heap.size,3,none⟩=some (.slice A3 nM c3)∧W1.cell? ⟨w.heap.size,4,none⟩=some (.slice A4 C.length c4)∧W1.cell? ⟨w.heap.size,5,none⟩=some (.int .i64 dep)∧W1.cell? ⟨w.heap.size,6,none⟩=some (.int .i64 loc):=by simp [World.cell?,hx]
 clear hx
 have HB1:=hid_ hB1
 clear hB1
 go_cut [5] (fun s5 wx=>∃ (ar:Option Addr) (cr g m:Nat),s5=.pointer (some ⟨g,0,none⟩)∧Wk.blk ⟨A0,A1,A2,A3,A4,ar,c0,c1,c2,c3,c4,cr,nT,nN,nS,nM,C,dep,loc,g,m⟩ wx (.slice none 0 0) 0∧w.heap.size≤g∧w.heap.size≤m∧MapAt wx m []∧k165.R 165 wx w.heap.size (fun _=>True) (.slice ar 37 cr) rowsL∧Below w.heap.size w wx)
 case first =>
  have hmm:=@run_makeMap Try.prog
  go_region_held3 (fun w'=>w'.cell? ⟨w.heap.size,0,none⟩=some (.slice A0 nT c0)∧w'.cell? ⟨w.heap.size,1,none⟩=some (.slice A1 nN c1)∧w'.cell? ⟨w.heap.size,2,none⟩=some (.slice A2 nS c2)∧w'.cell? ⟨w.heap.size,3,none⟩=some (.slice A3 nM c3)∧w'.cell? ⟨w.heap.size,4,none⟩=some (.slice A4 C.length c4)∧w'.cell? ⟨w.heap.size,5,none⟩=some (.int .i64 dep)∧w'.cell? ⟨w.heap.size,6,none⟩=some (.int .i64 loc))
   (first|exact ⟨y0,y1,y2,y3,y4,y5,y6⟩|exact keep7 (by assumption) bel1|exact keep7 (by assumption) (aZa (Below.refl _ _) _))
   ((go_at_call 54;(with_reducible refine (audit_rows.calls rowsL _ rows_some).mono ?_);rintro e w2 ⟨vr,rfl,hvr,bel1⟩;obtain ⟨ar,cr,rfl⟩:=Kd.R_slice hvr))
  all_goals
   go_wp2_with (fail)
   go_meet
   first
    | (have hb2 : Below w.heap.size w w2 := HB1.out.trans (aZo bel1 HB1.out.size)
       have hb3:Below w2.heap.size w2 (w2.alloc (.map #[] 0)):=aZa (Below.refl _ _) _
       have hh:=hZo (A0:=A0) (A1:=A1) (A2:=A2) (A3:=A3) (A4:=A4) (c0:=c0) (c1:=c1) (c2:=c2) (c3:=c3) (c4:=c4) (nT:=nT) (nN:=nN) (nS:=nS) (nM:=nM) (C:=C) (dep:=dep) (loc:=loc) (hb2.trans (hb3.mono hb2.size)) (heap_alloc_new w2 (.map #[] 0)) hb2.size (Kd.R_lower (Kd.R_below hvr hb3) HB1.out.size)
       rw [World.size_alloc] at hh
       exact hh)
    | (have hb0 : Below W1.heap.size W1 (W1.alloc (.map #[] 0)) := aZa (Below.refl _ _) _
       have hb1:Below (W1.alloc (.map #[] 0)).heap.size (W1.alloc (.map #[] 0)) w2:=⟨bel1.os,bel1.tape,bel1.output,bel1.size,bel1.block⟩
       have hb2:Below W1.heap.size W1 w2:=hb0.trans (hb1.mono hb0.size)
       have hb3:Below w.heap.size w w2:=HB1.out.trans (hb2.mono HB1.out.size)
       exact hZo hb3 ((hb1.block _ (by rw [World.size_alloc];omega)).trans (heap_alloc_new W1 (.map #[] 0))) HB1.out.size (Kd.R_lower hvr (Nat.le_trans HB1.out.size hb0.size)))
 case rest =>
  obtain ⟨ar,cr,g,m,rfl,hblk,hg,hm,hM,hR,hB⟩:=hcut
  have hrun:=run_any w wc ⟨A0,A1,A2,A3,A4,ar,c0,c1,c2,c3,c4,cr,nT,nN,nS,nM,C,dep,loc,g,m⟩ hblk hB hg hm hM hR HC.out G.out.1 hc4 (by have:=H2.out;show 0<C.length;omega) G.out.2.1.1 G.out.2.1.2 G.out.2.2.1 G.out.2.2.2
  rw [runF_data,←HE.out] at hrun
  clear hblk hM hR y0 y1 y2 y3 y4 y5 y6
  go_wp2_with (fail)
  refine hrun.mono ?_
  intro e w3 h3
  unfold hZP at h3
  cases hrs:res with
  | error f =>
   obtain ⟨i,n⟩:=f
   rw [hrs] at h3
   obtain ⟨rfl,hb3⟩:=h3
   have hn:n≠0:=by rw [HE.out] at hrs;exact fZK _ _ _ _ _ _ _ hrs
   have dn:(n != 0)=true:=by simpa using hn
   have dn2:(n == 0)=false:=by simpa using hn
   have HRS:=hid_ hrs
   clear hrs hn hrun
   go_wp2_with (fail)
   go_ret2
   rw [HRS.out]
   exact ⟨_,rfl,hb3.size,heap_alloc_new _ _,aZa hb3 _⟩
  | ok tm =>
   obtain ⟨told,most⟩:=tm
   rw [hrs] at h3
   obtain ⟨rfl,hb3,tv,hk,ht⟩:=h3
   have HRS:=hid_ hrs
   clear hrs hrun
   go_wp2_with (fail)
   go_ret2
   rw [HRS.out]
   exact ⟨_,tv,rfl,hk,ht,hb3⟩
theorem gZK (w:World) (A0 A1 A2 A3 A4:Option Addr) (c0 c1 c2 c3 c4 nT nN nS nM:Nat) (C:List S66) (dep loc:Int) (hC:Kd.C k66 w A4 C.length C) (hc4:C.length≤c4) (l0:nT≤140737488355328) (l1:nN≤140737488355328) (l2:nS≤140737488355328) (l3:nM≤140737488355328) (l4:C.length≤140737488355328) :
 Calls Try.prog 30 #[.agg #[.slice A0 nT c0,.slice A1 nN c1,.slice A2 nS c2,.slice A3 nM c3,.slice A4 C.length c4,.int .i64 dep,.int .i64 loc]] w (AuditEnd w (aZT nT nN nS nM C dep loc)):=by
 by_cases h:aZB nT nN nS nM C dep loc
 · exact fZ2 w A0 A1 A2 A3 A4 c0 c1 c2 c3 c4 nT nN nS nM C dep loc hC hc4 l0 l1 l2 l3 l4 h
 by_cases h2:C.length=0
 · exact hZj w A0 A1 A2 A3 A4 c0 c1 c2 c3 c4 nT nN nS nM C dep loc hC hc4 l0 l1 l2 l3 l4 h h2
 exact iZs w A0 A1 A2 A3 A4 c0 c1 c2 c3 c4 nT nN nS nM C dep loc hC hc4 l0 l1 l2 l3 l4 h h2
theorem cZN {nT nN nS nM:Nat} {C:List S66} {dep loc:Int} (h:¬aZB nT nN nS nM C dep loc):aZT nT nN nS nM C dep loc=if C.length=0 then .error (0,219) else runF (K0 nT nN nS nM C dep loc):=if_neg h
theorem dZm {nT nN nS nM:Nat} {C:List S66} {dep loc:Int} (h:aZB nT nN nS nM C dep loc):aZT nT nN nS nM C dep loc=.error (-1,210):=if_pos h
def goodC:List S66:=[⟨2,0,0,0⟩,⟨36,0,0,0⟩]
def badC:List S66:=[⟨2,0,0,0⟩,⟨33,3,0,0⟩,⟨2,0,0,0⟩,⟨36,0,0,0⟩]
theorem good_audit:aZT 0 0 0 0 goodC 1 0=.ok ([[],[1]],1):=by
  rw [cZN (by unfold aZB;decide),if_neg (by decide)]
  kernel_rfl
theorem bad_audit:aZT 0 0 0 0 badC 2 0=.error (3,218):=by
  rw [cZN (by unfold aZB;decide),if_neg (by decide)]
  kernel_rfl
def hZl (w:World) (len:Nat) (r:Except (Int × Int) (List (List Int) × Int)) (e:Ending) (w':World):Prop :=
  match r with
  | .error (i,n)=>∃ F,e=.returned (.tuple #[.agg #[.int .i64 0,.int .i64 0],.iface 95 (.pointer (some ⟨F,0,none⟩))])∧w.heap.size≤F∧w'.heap[F]?=some (.cells #[.int .i64 n,.int .i64 i,.string ⟨#[]⟩,.nilIface] 98 (0,0))∧Below w.heap.size w w'
  | .ok (_,most)=>e=.returned (.tuple #[.agg #[.int .i64 most,.int .i64 len],.nilIface])∧Below w.heap.size w w'
def StkEnd (w:World) (r:Except (Int × Int) (List (List Int) × Int)) (e:Ending) (w':World):Prop :=
  match r with
  | .error (i,n)=>∃ F,e=.returned (.tuple #[.slice none 0 0,.iface 95 (.pointer (some ⟨F,0,none⟩))])∧w.heap.size≤F∧w'.heap[F]?=some (.cells #[.int .i64 n,.int .i64 i,.string ⟨#[]⟩,.nilIface] 98 (0,0))∧Below w.heap.size w w'
  | .ok (told,_)=>∃ tv,e=.returned (.tuple #[tv,.nilIface])∧Kd.S told2 51 w' w.heap.size (fun _=>True) tv told∧Below w.heap.size w w'
theorem results11 (tmps:Array Value) (w:World) (P:Nat) (a b ev:Value) (h2:tmps.getD 2 undef=.pointer (some ⟨P,0,none⟩)) (h3:tmps.getD 3 undef=ev) (hP:w.heap[P]?=some (.cells #[a,b] 31 (0,0))) :
    (results Try.f11 tmps).run Try.prog w=.ok (.tuple #[.agg #[a,b],ev]) w:=by
  have hl:=run_loadVar_row (P:=Try.prog) w P 31 31 #[a,b] (0,0) _ hP Try.underlying31 rfl (by kernel_rfl)
  have h2':tmps[2]?.getD undef=.pointer (some ⟨P,0,none⟩):=by simpa using h2
  have h3':tmps[3]?.getD undef=ev:=by simpa using h3
  simp [results,Try.results11,h2',h3',asAddr,hl]
theorem fZc (w:World) (A0 A1 A2 A3 A4:Option Addr) (c0 c1 c2 c3 c4 nT nN nS nM:Nat) (C:List S66) (dep loc:Int) (hC:Kd.C k66 w A4 C.length C) (hc4:C.length≤c4) (l0:nT≤140737488355328) (l1:nN≤140737488355328) (l2:nS≤140737488355328) (l3:nM≤140737488355328) (l4:C.length≤140737488355328) :
 Calls Try.prog 14 #[.agg #[.slice A0 nT c0,.slice A1 nN c1,.slice A2 nS c2,.slice A3 nM c3,.slice A4 C.length c4,.int .i64 dep,.int .i64 loc]] w (StkEnd w (aZT nT nN nS nM C dep loc)):=by
 have hb0:Below w.heap.size w (w.alloc (.cells #[.slice A0 nT c0,.slice A1 nN c1,.slice A2 nS c2,.slice A3 nM c3,.slice A4 C.length c4,.int .i64 dep,.int .i64 loc] 28)):=aZa (Below.refl _ _) _
 have HA:=gZK (w.alloc (.cells #[.slice A0 nT c0,.slice A1 nN c1,.slice A2 nS c2,.slice A3 nM c3,.slice A4 C.length c4,.int .i64 dep,.int .i64 loc] 28)) A0 A1 A2 A3 A4 c0 c1 c2 c3 c4 nT nN nS nM C dep loc (Kd.C_below hC hb0) hc4 l0 l1 l2 l3 l4
 generalize aZT nT nN nS nM C dep loc=res at HA ⊢
 have HB:=hid_ hb0
 clear hb0
 go_enter Try.func14,Try.ntmps14
 go_wp2_with (fail)
 refine HA.mono ?_
 intro e w3 h3
 cases res with
 | error f =>
  obtain ⟨i,n⟩:=f
  obtain ⟨F,rfl,hF,hFc,hb3⟩:=h3
  go_wp2_with (fail)
  go_ret2
  have hb:=HB.out.trans (hb3.mono HB.out.size)
  exact ⟨F,rfl,Nat.le_trans HB.out.size hF,hFc,hb⟩
 | ok tm =>
  obtain ⟨told,most⟩:=tm
  obtain ⟨k,tv,rfl,hk,ht,hb3⟩:=h3
  obtain ⟨-,-,-,-,-,-,-,-,-,y9,-,-,-⟩:=Wk.cells hk
  go_wp2_with (fail)
  go_ret2
  exact ⟨tv,rfl,Kd.S_lower ht HB.out.size,HB.out.trans (hb3.mono HB.out.size)⟩
theorem eZz (W:World) (Z:Nat) (a b:Value) (h:∃ x0 x1,W.heap[Z]?=some (.cells #[x0,x1] 31 (0,0))):((W.setCell ⟨Z,0,none⟩ a).setCell ⟨Z,1,none⟩ b).heap[Z]?=some (.cells #[a,b] 31 (0,0)):=by
  obtain ⟨x0,x1,h⟩:=h
  simp [World.setCell,h,Array.getElem?_modify]
theorem dZX (W:World) (Z:Nat) (a b:Value) (k:Nat) (hk:k≠Z):((W.setCell ⟨Z,0,none⟩ a).setCell ⟨Z,1,none⟩ b).heap[k]?=W.heap[k]?:=by
  rw [Below.heap_setCell _ _ _ _ (by simpa using hk),Below.heap_setCell _ _ _ _ (by simpa using hk)]
theorem eZo (w:World) (A0 A1 A2 A3 A4:Option Addr) (c0 c1 c2 c3 c4 nT nN nS nM:Nat) (C:List S66) (dep loc:Int) (hC:Kd.C k66 w A4 C.length C) (hc4:C.length≤c4) (l0:nT≤140737488355328) (l1:nN≤140737488355328) (l2:nS≤140737488355328) (l3:nM≤140737488355328) (l4:C.length≤140737488355328) :
 Calls Try.prog 11 #[.agg #[.slice A0 nT c0,.slice A1 nN c1,.slice A2 nS c2,.slice A3 nM c3,.slice A4 C.length c4,.int .i64 dep,.int .i64 loc]] w (hZl w C.length (aZT nT nN nS nM C dep loc)):=by
 generalize hW0:((w.alloc (.cells #[.slice A0 nT c0,.slice A1 nN c1,.slice A2 nS c2,.slice A3 nM c3,.slice A4 C.length c4,.int .i64 dep,.int .i64 loc] 28)).alloc (.cells #[.int .i64 0,.int .i64 0] 31))=W0
 have hb0:Below w.heap.size w W0:=by rw [←hW0];exact aZa (aZa (Below.refl _ _) _) _
 have hs0:W0.heap.size=w.heap.size+2:=by rw [←hW0];simp
 have hp0:W0.heap[w.heap.size]?=some (.cells #[.slice A0 nT c0,.slice A1 nN c1,.slice A2 nS c2,.slice A3 nM c3,.slice A4 C.length c4,.int .i64 dep,.int .i64 loc] 28 (0,0)):=by
  rw [←hW0,heap_alloc_old _ _ (by simp)];exact heap_alloc_new w _
 have hq0:W0.heap[w.heap.size+1]?=some (.cells #[.int .i64 0,.int .i64 0] 31 (0,0)):=by
  rw [←hW0]
  have:=heap_alloc_new (w.alloc (.cells #[.slice A0 nT c0,.slice A1 nN c1,.slice A2 nS c2,.slice A3 nM c3,.slice A4 C.length c4,.int .i64 dep,.int .i64 loc] 28)) (.cells #[.int .i64 0,.int .i64 0] 31)
  simpa using this
 have HA:=gZK W0 A0 A1 A2 A3 A4 c0 c1 c2 c3 c4 nT nN nS nM C dep loc (Kd.C_below hC hb0) hc4 l0 l1 l2 l3 l4
 generalize aZT nT nN nS nM C dep loc=res at HA ⊢
 have HB:=hid_ hb0
 have HW0:=hid_ hW0
 clear hb0 hW0
 go_enter Try.func11,Try.ntmps11
 go_wp2_with (fail)
 rw [HW0.out]
 clear HW0
 refine HA.mono ?_
 intro e w3 h3
 cases res with
 | error f =>
  obtain ⟨i,n⟩:=f
  obtain ⟨F,rfl,hF,hFc,hb3⟩:=h3
  have hq3:=(hb3.block (w.heap.size+1) (by omega)).trans hq0
  have y0:w3.cell? ⟨w.heap.size+1,0,none⟩=some (.int .i64 0):=by simp [World.cell?,hq3]
  have y1:w3.cell? ⟨w.heap.size+1,1,none⟩=some (.int .i64 0):=by simp [World.cell?,hq3]
  have z0:∀ i,w3.frozen? ⟨w.heap.size+1,i,none⟩=false:=fun i=>by simp [World.frozen?,hq3]
  go_wp2_with (fail)
  have hB3:=HB.out.trans (hb3.mono HB.out.size)
  have hP:((w3.setCell ⟨w.heap.size+1,0,none⟩ (.int .i64 0)).setCell ⟨w.heap.size+1,1,none⟩ (.int .i64 0)).heap[w.heap.size+1]?=some (.cells #[.int .i64 0,.int .i64 0] 31 (0,0)):=eZz _ _ _ _ ⟨_,_,hq3⟩
  have hFc2:=(dZX w3 (w.heap.size+1) (.int .i64 0) (.int .i64 0) F (by omega)).trans hFc
  have hB4:=show Below w.heap.size w ((w3.setCell ⟨w.heap.size+1,0,none⟩ (.int .i64 0)).setCell ⟨w.heap.size+1,1,none⟩ (.int .i64 0)) from (hB3.setCell (by simp) _).setCell (by simp) _
  exact bodyPost_ret (results11 _ _ (w.heap.size+1) _ _ _ rfl rfl hP) rfl ⟨F,rfl,by omega,hFc2,hB4⟩
 | ok tm =>
  obtain ⟨told,most⟩:=tm
  obtain ⟨k,tv,rfl,hk,ht,hb3⟩:=h3
  obtain ⟨-,-,-,-,-,-,-,-,-,-,y10,-,-⟩:=Wk.cells hk
  have hp3:=(hb3.block (w.heap.size) (by omega)).trans hp0
  have hq3:=(hb3.block (w.heap.size+1) (by omega)).trans hq0
  have y0:w3.cell? ⟨w.heap.size+1,0,none⟩=some (.int .i64 0):=by simp [World.cell?,hq3]
  have y1:w3.cell? ⟨w.heap.size+1,1,none⟩=some (.int .i64 0):=by simp [World.cell?,hq3]
  have y4:w3.cell? ⟨w.heap.size,4,none⟩=some (.slice A4 C.length c4):=by simp [World.cell?,hp3]
  have z0:∀ i,w3.frozen? ⟨w.heap.size+1,i,none⟩=false:=fun i=>by simp [World.frozen?,hq3]
  have hlen:=hid_ l4
  have hB3:=HB.out.trans (hb3.mono HB.out.size)
  have hg:=aZG y10
  have nk:k.g≠w.heap.size+1:=by
   intro e
   have hk2:w3.heap[k.g]?=_:=hk
   rw [e,hq3] at hk2
   simp at hk2
  have HQ:=hid_ hq3
  have HP3:=hid_ hp3
  clear hq3 hp3 hp0 hq0 hk ht HA
  go_upto_region 4 with (fail)
  go_region_with (skip)
  all_goals go_wp2_with (fail)
  all_goals
   have hP:(((w3.setCell ⟨w.heap.size+1,0,none⟩ (.int .i64 most)).setCell ⟨w.heap.size+1,1,none⟩ (.int .i64 C.length)).drew).heap[w.heap.size+1]?=some (.cells #[.int .i64 most,.int .i64 C.length] 31 (0,0)):=eZz _ _ _ _ ⟨_,_,HQ.out⟩
   exact bodyPost_ret (results11 _ _ (w.heap.size+1) _ _ _ (by kernel_rfl) (by kernel_rfl) hP) (by kernel_rfl) ⟨rfl,(show Below w.heap.size w ((w3.setCell ⟨w.heap.size+1,0,none⟩ (.int .i64 most)).setCell ⟨w.heap.size+1,1,none⟩ (.int .i64 C.length)) from (hB3.setCell (by simp) _).setCell (by simp) _).drew⟩
end Go.Proofs.Ytbnplhmmbnmagaa.D
