/- A part of the proof of AuditMemory: walks written by a program of this session. -/
import Derived.Test.YtbnplhmmbnmagaazAMm2
set_option maxHeartbeats 4000000
set_option maxRecDepth 100000
set_option linter.all false
namespace Go.Proofs.Ytbnplhmmbnmagaa.All
open Go.RowKit Go.Proofs.YtbnplhmmbnmagaaW.PrintWords Go.Proofs.YtbnplhmmbnmagaaW.PrintLast Go.Proofs.YtbnplhmmbnmagaaW.PrintMore
attribute [local go_sem] bZN bZL cZj cZh bZn bZm bZM bZK
attribute [local go_sem] Go.Proofs.YtbnplhmmbnmagaaX.binOp_leq Go.Proofs.YtbnplhmmbnmagaaX.binOp_geq Go.Proofs.YtbnplhmmbnmagaaX.binOp_gtr
mutual
def berthref20_Reader_count.l0:Nat→Int→Int→Int→Int→Int→List Int→Int→Int→Int→Option (Int × Int × Int × Int)
  | 0,_,_,_,_,_,_,_,_,_=>none
  | k+1,x1,x2,x7,x8,x9,x1000,x1001,x1002,x1003=>if x1001≥(x1000.length:Int) then ((berthref20_Reader_fail.f x1000 x1001 x1002 x1003 201 (x1000.length:Int)).bind fun bt296=>(some (0,bt296.1,bt296.2.1,bt296.2.2))) else (if 0≤x1001 then (if x1001<(x1000.length:Int) then (if (wrap64 ((wrap64 (x1001+1)) - x7))=9 then (berthref20_Reader_count.j1 k x1 x2 x7 x8 x9 (wrap64 (rd x1000 x1001)) (decide ((wrap64 (rd x1000 x1001))≥128)) x1000 (wrap64 (x1001+1)) x1002 x1003) else (berthref20_Reader_count.j1 k x1 x2 x7 x8 x9 (wrap64 (rd x1000 x1001)) false x1000 (wrap64 (x1001+1)) x1002 x1003)) else (none)) else (none))
def berthref20_Reader_count.j1:Nat→Int→Int→Int→Int→Int→Int→Bool→List Int→Int→Int→Int→Option (Int × Int × Int × Int)
  | 0,_,_,_,_,_,_,_,_,_,_,_=>none
  | k+1,x1,x2,x7,x8,x9,x10,x65,x1000,x1001,x1002,x1003=>if x65=true then ((berthref20_Reader_fail.f x1000 x1001 x1002 x1003 202 x7).bind fun bt300=>(some (0,bt300.1,bt300.2.1,bt300.2.2))) else (if x10<128 then (if x10=0 then (if (wrap64 (x1001 - x7)) > 1 then ((berthref20_Reader_fail.f x1000 x1001 x1002 x1003 202 x7).bind fun bt303=>(some (0,bt303.1,bt303.2.1,bt303.2.2))) else (if (wrap64 (x8+(wrap64 ((Int.tmod x10 128)*x9))))<x1 then ((berthref20_Reader_fail.f x1000 x1001 x1002 x1003 205 x7).bind fun bt306=>(some (0,bt306.1,bt306.2.1,bt306.2.2))) else (if (wrap64 (x8+(wrap64 ((Int.tmod x10 128)*x9)))) > x2 then ((berthref20_Reader_fail.f x1000 x1001 x1002 x1003 205 x7).bind fun bt309=>(some (0,bt309.1,bt309.2.1,bt309.2.2))) else (some (wrap64 (x8+(wrap64 ((Int.tmod x10 128)*x9))),x1001,x1002,x1003))))) else (if (wrap64 (x8+(wrap64 ((Int.tmod x10 128)*x9))))<x1 then ((berthref20_Reader_fail.f x1000 x1001 x1002 x1003 205 x7).bind fun bt312=>(some (0,bt312.1,bt312.2.1,bt312.2.2))) else (if (wrap64 (x8+(wrap64 ((Int.tmod x10 128)*x9)))) > x2 then ((berthref20_Reader_fail.f x1000 x1001 x1002 x1003 205 x7).bind fun bt315=>(some (0,bt315.1,bt315.2.1,bt315.2.2))) else (some (wrap64 (x8+(wrap64 ((Int.tmod x10 128)*x9))),x1001,x1002,x1003))))) else (berthref20_Reader_count.l0 k x1 x2 x7 (wrap64 (x8+(wrap64 ((Int.tmod x10 128)*x9)))) (wrap64 (x9*128)) x1000 x1001 x1002 x1003))
end
def berthref20_Reader_count.f (k:Nat) (s0_0:List Int) (s0_1:Int) (s0_2:Int) (s0_3:Int) (a1:Int) (a2:Int):Option (Int × Int × Int × Int):=if s0_2=0 then (berthref20_Reader_count.l0 k a1 a2 s0_1 0 1 s0_0 s0_1 s0_2 s0_3) else (some (0,s0_1,s0_2,s0_3))
theorem berthref20_Reader_count.mono_l:∀ k,(∀ y0 y1 y2 y3 y4 y5 y6 y7 y8,LeO (berthref20_Reader_count.l0 k y0 y1 y2 y3 y4 y5 y6 y7 y8) (berthref20_Reader_count.l0 (k+1) y0 y1 y2 y3 y4 y5 y6 y7 y8))∧(∀ y0 y1 y2 y3 y4 y5 y6 y7 y8 y9 y10,LeO (berthref20_Reader_count.j1 k y0 y1 y2 y3 y4 y5 y6 y7 y8 y9 y10) (berthref20_Reader_count.j1 (k+1) y0 y1 y2 y3 y4 y5 y6 y7 y8 y9 y10))
  | 0=>⟨fun _ _ _ _ _ _ _ _ _ r h=>by simp [berthref20_Reader_count.l0] at h,fun _ _ _ _ _ _ _ _ _ _ _ r h=>by simp [berthref20_Reader_count.j1] at h⟩
  | k+1=>by
    obtain ⟨ih0,ih1⟩:=berthref20_Reader_count.mono_l k
    refine ⟨?_,?_⟩
    · intro y0 y1 y2 y3 y4 y5 y6 y7 y8
      unfold berthref20_Reader_count.l0
      repeat' first|(with_reducible exact ih1 _ _ _ _ _ _ _ _ _ _ _)|(with_reducible exact LeO.refl _)|(with_reducible refine LeO.ite ?_ ?_)
    · intro y0 y1 y2 y3 y4 y5 y6 y7 y8 y9 y10
      unfold berthref20_Reader_count.j1
      repeat' first|(with_reducible exact ih0 _ _ _ _ _ _ _ _ _)|(with_reducible exact LeO.refl _)|(with_reducible refine LeO.ite ?_ ?_)
theorem berthref20_Reader_count.mono:∀ a0 a1 a2 a3 a4 a5 k,LeO (berthref20_Reader_count.f k a0 a1 a2 a3 a4 a5) (berthref20_Reader_count.f (k+1) a0 a1 a2 a3 a4 a5):=by
  intro a0 a1 a2 a3 a4 a5 k
  obtain ⟨ih0,ih1⟩:=berthref20_Reader_count.mono_l k
  unfold berthref20_Reader_count.f
  repeat' first|(with_reducible exact ih0 _ _ _ _ _ _ _ _ _)|(with_reducible exact LeO.refl _)|(with_reducible refine LeO.ite ?_ ?_)
theorem berthref20_Reader_count.calls (k:Nat) (g:Nat) (s0_0:List Int) (s0_1:Int) (s0_2:Int) (s0_3:Int) (a1:Int) (a2:Int) (r1:Int) (r2:Int) (r3:Int) (r4:Int) (w0 w:World) (hI:IsS136 w0 w g s0_0 s0_1 s0_2 s0_3) (hB:Below w0.heap.size w0 w) (h:berthref20_Reader_count.f k s0_0 s0_1 s0_2 s0_3 a1 a2=some (r1,r2,r3,r4)) :
 Calls Try.prog 61 #[.pointer (some ⟨g,0,none⟩),.int .i64 a1,.int .i64 a2] w fun e w'=>e=.returned (.int .i64 r1)∧IsS136 w0 w' g s0_0 r2 r3 r4∧Below w0.heap.size w0 w'∧KeepBut w w' g none:=by
 have HI0:=Aside0.mk hI
 have HK:=Aside0.mk (KeepBut.refl w g none)
 have HL:=Aside0.mk hB.size
 clear hI
 have HW0:=Aside0.mk hB.size
 have HB:=Aside0.mk hB
 clear hB
 have H:(if s0_2=0 then (berthref20_Reader_count.l0 k a1 a2 s0_1 0 1 s0_0 s0_1 s0_2 s0_3) else (some (0,s0_1,s0_2,s0_3)))=some (r1,r2,r3,r4):=h
 clear h
 by_cases c4:s0_2=0
 ·
  rw [if_pos c4] at H
  have c4b0:(s0_2 == 0)=true:=beq_iff_eq.mpr c4
  have c4b1:(s0_2 != 0)=false:=bne_eq_false_iff_eq.mpr c4
  clear c4
  have H':=Aside0.mk H
  clear H
  obtain ⟨ASz5_0,cSz5_0,HGz5,hgz5,HSz5_0⟩:=HI0.out.old
  have hcz5_0:=aZy HGz5
  have hcz5_1:=aZx HGz5
  have hcz5_2:=aZw HGz5
  have hcz5_3:=aZv HGz5
  have hfz5_1:=aZf HGz5 1
  have hfz5_2:=aZf HGz5 2
  have hfz5_3:=aZf HGz5 3
  clear HGz5 hgz5
  go_enter Try.func61,Try.ntmps61
  go_wp2
  repeat (go_quiet (fail);try go_wp2)
  go_loopg [8,9] k (fun kq v8 v9 w'=>∃ (x8_1:Int) (x9_1:Int) (x1001_1:Int) (x1002_1:Int) (x1003_1:Int),v8=.int .i64 x8_1∧v9=.int .i64 x9_1∧Aside0 (berthref20_Reader_count.l0 kq a1 a2 s0_1 x8_1 x9_1 s0_0 x1001_1 x1002_1 x1003_1=some (r1,r2,r3,r4))∧Aside0 (kq≤k)∧Aside0 (IsS136 w0 w' g s0_0 x1001_1 x1002_1 x1003_1)∧Aside0 (KeepBut w w' g none)∧Aside0 (Below w0.heap.size w0 w'))
  case atStart=>exact ⟨(0),(1),(s0_1),(s0_2),(s0_3),(by rfl),(by rfl),H',⟨Nat.le_refl _⟩,HI0,HK,HB⟩
  case round =>
   clear H'
   (try clear p2);(try clear c4);(try clear c4b0);(try clear c4b1);(try clear hcz5_0);(try clear hcz5_1);(try clear hcz5_2);(try clear hcz5_3);(try clear hfz5_1);(try clear hfz5_2);(try clear hfz5_3)
   obtain ⟨x8_1,x9_1,x1001_1,x1002_1,x1003_1,rfl,rfl,HA,HK1,HI0,HK,HB⟩:=hrel
   cases gk with
   | zero=>exact absurd HA.out (by simp [berthref20_Reader_count.l0])
   | succ k1 =>
    have H:=HA.out
    clear HA
    simp only [berthref20_Reader_count.l0] at H
    by_cases c6:x1001_1≥(s0_0.length:Int)
    ·
     rw [if_pos c6] at H
     have c6b0:decide ((s0_0.length:Int)≤x1001_1)=true:=decide_eq_true c6
     clear c6
     replace H:=Option.bind_eq_some_iff.mp H
     obtain ⟨⟨t296,t297,t298⟩,A70,H⟩:=H
     replace H:(some (0,t296,t297,t298))=some (r1,r2,r3,r4):=H
     have A7:=Aside0.mk A70
     clear A70
     simp only [Option.some.injEq,Prod.mk.injEq] at H
     obtain ⟨rfl,rfl,rfl,rfl⟩:=H
     obtain ⟨ASz8_0,cSz8_0,HGz8,hgz8,HSz8_0⟩:=HI0.out.old
     have hcz8_0:=aZy HGz8
     have hcz8_1:=aZx HGz8
     have hcz8_2:=aZw HGz8
     have hcz8_3:=aZv HGz8
     have hfz8_1:=aZf HGz8 1
     have hfz8_2:=aZf HGz8 2
     have hfz8_3:=aZf HGz8 3
     clear HGz8 hgz8
     go_wp2_with (fail)
     repeat (go_quiet (first|(go_at_call 66;(with_reducible refine (berthref20_Reader_fail.calls g s0_0 x1001_1 x1002_1 x1003_1 201 (s0_0.length:Int) t296 t297 t298 w0 _ ?side1 ?side2 A7.out).mono ?_);(case side1=>repeat (first|(with_reducible first|exact HI0.out|apply IsS136.alloc|apply IsS136.drewN|apply IsS136.drew|apply IsS136.set_1|apply IsS136.set_2|apply IsS136.set_3)|exact HI0.out));(case side2=>repeat (first|(with_reducible first|exact HB.out|apply aZa|apply aZb|apply below_drew1|refine cZL ?_ (IsS136.ge HI0.out))|exact HB.out));rintro e w9 ⟨rfl,hi,hb,hk⟩;replace HK:=Aside0.mk (KeepBut.trans (by repeat (first|(with_reducible first|exact HK.out|apply KeepBut.set_|apply bZX|apply keep_drew|apply keep_alloc)|exact HK.out)) hk (.inl rfl));replace HB:=Aside0.mk (hb);replace HI0:=Aside0.mk (hi);(try clear hb);(try clear hk);(try clear hi)));try go_wp2_with ((go_at_call 66;(with_reducible refine (berthref20_Reader_fail.calls g s0_0 x1001_1 x1002_1 x1003_1 201 (s0_0.length:Int) t296 t297 t298 w0 _ ?side1 ?side2 A7.out).mono ?_);(case side1=>repeat ((with_reducible first|exact HI0.out|apply IsS136.drewN)));(case side2=>repeat ((with_reducible first|exact HB.out|apply aZb)));rintro e w9 ⟨rfl,hi,hb,hk⟩;replace HK:=Aside0.mk (KeepBut.trans (by repeat ((with_reducible first|exact HK.out|apply bZX))) hk (.inl rfl));replace HB:=Aside0.mk (hb);replace HI0:=Aside0.mk (hi);(try clear hb);(try clear hk);(try clear hi))))
     go_ret
     exact ⟨by rfl,HI0.out,HB.out,HK.out⟩
    ·
     rw [if_neg c6] at H
     have c6b0:decide ((s0_0.length:Int)≤x1001_1)=false:=decide_eq_false c6
     clear c6
     by_cases c10:0≤x1001_1
     ·
      rw [if_pos c10] at H
      have c10b0:decide (0≤x1001_1)=true:=decide_eq_true c10
      clear c10
      by_cases c11:x1001_1<(s0_0.length:Int)
      ·
       rw [if_pos c11] at H
       have c11b0:decide (x1001_1<(s0_0.length:Int))=true:=decide_eq_true c11
       clear c11
       have HC12:=Aside0.mk H
       clear H
       obtain ⟨ASz13_0,cSz13_0,HGz13,hgz13,HSz13_0⟩:=HI0.out.old
       have hcz13_0:=aZy HGz13
       have hcz13_1:=aZx HGz13
       have hcz13_2:=aZw HGz13
       have hcz13_3:=aZv HGz13
       have hfz13_1:=aZf HGz13 1
       have hfz13_2:=aZf HGz13 2
       have hfz13_3:=aZf HGz13 3
       clear HGz13 hgz13
       have p299:0≤(x1001_1:Int):=of_decide_eq_true (by (with_reducible assumption))
       have q299:x1001_1<(s0_0.length:Int):=of_decide_eq_true (by (with_reducible assumption))
       obtain ⟨ad299,e299,hx299_0⟩:=Kd.at_int HSz13_0 x1001_1 p299 q299
       cases e299
       replace hx299_0:=aZe HB.out hx299_0
       replace p299:=eq_true p299
       replace q299:=eq_true q299
       go_upto_region 10 with (fail)
       repeat (go_quiet (fail);go_upto_region 10 with (fail))
       go_cut [65] (fun v65 wc=>∃ (kq:Nat) (x65_11:Bool),v65=.bool x65_11∧Aside0 (berthref20_Reader_count.j1 kq a1 a2 s0_1 x8_1 x9_1 (wrap64 (rd s0_0 x1001_1)) x65_11 s0_0 (wrap64 (x1001_1+1)) x1002_1 x1003_1=some (r1,r2,r3,r4))∧Aside0 (kq≤k1)∧Aside0 (IsS136 w0 wc g s0_0 (wrap64 (x1001_1+1)) x1002_1 x1003_1)∧Aside0 (KeepBut w wc g none)∧Aside0 (Below w0.heap.size w0 wc))
       case first =>
        have H:=HC12.out
        clear HC12
        by_cases c14:(wrap64 ((wrap64 (x1001_1+1)) - s0_1))=9
        ·
         rw [if_pos c14] at H
         have c14b0:((wrap64 ((wrap64 (x1001_1+1)) - s0_1)) == 9)=true:=beq_iff_eq.mpr c14
         have c14b1:((wrap64 ((wrap64 (x1001_1+1)) - s0_1)) != 9)=false:=bne_eq_false_iff_eq.mpr c14
         (try (have c14b2:((IntKind.i64.wrap ((IntKind.i64.wrap (x1001_1+1)) - s0_1)) == 9)=true:=by have h_:((wrap64 ((wrap64 (x1001_1+1)) - s0_1)) == 9)=true:=beq_iff_eq.mpr c14;simp only [cZu];exact h_))
         (try (have c14b3:((IntKind.i64.wrap ((IntKind.i64.wrap (x1001_1+1)) - s0_1)) != 9)=false:=by have h_:((wrap64 ((wrap64 (x1001_1+1)) - s0_1)) != 9)=false:=bne_eq_false_iff_eq.mpr c14;simp only [cZu];exact h_))
         clear c14
         (skip)
         have H':=Aside0.mk H
         clear H
         obtain ⟨ASz15_0,cSz15_0,HGz15,hgz15,HSz15_0⟩:=HI0.out.old
         have hcz15_0:=aZy HGz15
         have hcz15_1:=aZx HGz15
         have hcz15_2:=aZw HGz15
         have hcz15_3:=aZv HGz15
         have hfz15_1:=aZf HGz15 1
         have hfz15_2:=aZf HGz15 2
         have hfz15_3:=aZf HGz15 3
         clear HGz15 hgz15
         go_wp2
         repeat (go_quiet (fail);try go_wp2)
         go_meet
         case rel=>exact ⟨_,(decide ((wrap64 (rd s0_0 x1001_1))≥128)),(by rfl),H',⟨by have:=HK1.out;omega⟩,⟨by repeat ((with_reducible first|exact HI0.out|apply IsS136.drewN|apply IsS136.set_1))⟩,⟨by repeat ((with_reducible first|exact HK.out|apply KeepBut.set_|apply bZX))⟩,⟨by repeat ((with_reducible first|exact HB.out|apply aZb|refine cZL ?_ (IsS136.ge HI0.out)))⟩⟩
        ·
         rw [if_neg c14] at H
         have c14b0:((wrap64 ((wrap64 (x1001_1+1)) - s0_1)) == 9)=false:=beq_eq_false_iff_ne.mpr c14
         have c14b1:((wrap64 ((wrap64 (x1001_1+1)) - s0_1)) != 9)=true:=bne_iff_ne.mpr c14
         (try (have c14b2:((IntKind.i64.wrap ((IntKind.i64.wrap (x1001_1+1)) - s0_1)) == 9)=false:=by have h_:((wrap64 ((wrap64 (x1001_1+1)) - s0_1)) == 9)=false:=beq_eq_false_iff_ne.mpr c14;simp only [cZu];exact h_))
         (try (have c14b3:((IntKind.i64.wrap ((IntKind.i64.wrap (x1001_1+1)) - s0_1)) != 9)=true:=by have h_:((wrap64 ((wrap64 (x1001_1+1)) - s0_1)) != 9)=true:=bne_iff_ne.mpr c14;simp only [cZu];exact h_))
         (skip)
         have H':=Aside0.mk H
         clear H
         obtain ⟨ASz16_0,cSz16_0,HGz16,hgz16,HSz16_0⟩:=HI0.out.old
         have hcz16_0:=aZy HGz16
         have hcz16_1:=aZx HGz16
         have hcz16_2:=aZw HGz16
         have hcz16_3:=aZv HGz16
         have hfz16_1:=aZf HGz16 1
         have hfz16_2:=aZf HGz16 2
         have hfz16_3:=aZf HGz16 3
         clear HGz16 hgz16
         go_wp2
         repeat (go_quiet (fail);try go_wp2)
         go_meet
         case rel=>exact ⟨_,(false),(by rfl),H',⟨by have:=HK1.out;omega⟩,⟨by repeat ((with_reducible first|exact HI0.out|apply IsS136.drewN|apply IsS136.set_1))⟩,⟨by repeat ((with_reducible first|exact HK.out|apply KeepBut.set_|apply bZX))⟩,⟨by repeat ((with_reducible first|exact HB.out|apply aZb|refine cZL ?_ (IsS136.ge HI0.out)))⟩⟩
       case rest =>
        clear HC12
        (try clear c1);(try clear p2);(try clear q2);(try clear hx2);(try clear c4);(try clear c4b0);(try clear c4b1);(try clear c6);(try clear c6b0);(try clear p6);(try clear c10);(try clear c10b0);(try clear c11);(try clear c11b0);(try clear c14);(try clear c14b0);(try clear c14b1);(try clear c14b2);(try clear hcz13_0);(try clear hcz13_1);(try clear hcz13_2);(try clear hcz13_3);(try clear hcz15_0);(try clear hcz15_1);(try clear hcz15_2);(try clear hcz15_3);(try clear hcz16_0);(try clear hcz16_1);(try clear hcz16_2);(try clear hcz16_3);(try clear hcz5_0);(try clear hcz5_1);(try clear hcz5_2);(try clear hcz5_3);(try clear hcz8_0);(try clear hcz8_1);(try clear hcz8_2);(try clear hcz8_3);(try clear hfz13_1);(try clear hfz13_2);(try clear hfz13_3);(try clear hfz15_1);(try clear hfz15_2);(try clear hfz15_3);(try clear hfz16_1);(try clear hfz16_2);(try clear hfz16_3);(try clear hfz5_1);(try clear hfz5_2);(try clear hfz5_3);(try clear hfz8_1);(try clear hfz8_2);(try clear hfz8_3);(try clear hx299_0);(try clear p2);(try clear p299);(try clear q299)
        obtain ⟨kq,x65_11,rfl,HA,HJ11,HI0,HK,HB⟩:=hcut
        cases kq with
        | zero=>exact absurd HA.out (by simp [berthref20_Reader_count.j1])
        | succ kj11 =>
         have H:=HA.out
         clear HA
         simp only [berthref20_Reader_count.j1] at H
         by_cases c17:x65_11=true
         ·
          subst c17
          have H1:((berthref20_Reader_fail.f s0_0 (wrap64 (x1001_1+1)) x1002_1 x1003_1 202 s0_1).bind fun bt300=>(some (0,bt300.1,bt300.2.1,bt300.2.2)))=some (r1,r2,r3,r4):=by rw [if_pos rfl] at H;exact H
          clear H
          have H:=H1
          clear H1
          replace H:=Option.bind_eq_some_iff.mp H
          obtain ⟨⟨t300,t301,t302⟩,A180,H⟩:=H
          replace H:(some (0,t300,t301,t302))=some (r1,r2,r3,r4):=H
          have A18:=Aside0.mk A180
          clear A180
          simp only [Option.some.injEq,Prod.mk.injEq] at H
          obtain ⟨rfl,rfl,rfl,rfl⟩:=H
          go_wp2_with ((go_at_call 66;(with_reducible refine (berthref20_Reader_fail.calls g s0_0 (wrap64 (x1001_1+1)) x1002_1 x1003_1 202 s0_1 t300 t301 t302 w0 _ ?side1 ?side2 A18.out).mono ?_);(case side1=>repeat ((with_reducible exact HI0.out)));(case side2=>repeat ((with_reducible exact HB.out)));rintro e w19 ⟨rfl,hi,hb,hk⟩;replace HK:=Aside0.mk (KeepBut.trans (HK.out) hk (.inl rfl));replace HB:=Aside0.mk (hb);replace HI0:=Aside0.mk (hi);(try clear hb);(try clear hk);(try clear hi)))
          go_ret
          exact ⟨by rfl,HI0.out,HB.out,HK.out⟩
         ·
          replace c17:=Bool.eq_false_iff.mpr c17
          subst c17
          have H1:(if (wrap64 (rd s0_0 x1001_1))<128 then (if (wrap64 (rd s0_0 x1001_1))=0 then (if (wrap64 ((wrap64 (x1001_1+1)) - s0_1)) > 1 then ((berthref20_Reader_fail.f s0_0 (wrap64 (x1001_1+1)) x1002_1 x1003_1 202 s0_1).bind fun bt303=>(some (0,bt303.1,bt303.2.1,bt303.2.2))) else (if (wrap64 (x8_1+(wrap64 ((Int.tmod (wrap64 (rd s0_0 x1001_1)) 128)*x9_1))))<a1 then ((berthref20_Reader_fail.f s0_0 (wrap64 (x1001_1+1)) x1002_1 x1003_1 205 s0_1).bind fun bt306=>(some (0,bt306.1,bt306.2.1,bt306.2.2))) else (if (wrap64 (x8_1+(wrap64 ((Int.tmod (wrap64 (rd s0_0 x1001_1)) 128)*x9_1)))) > a2 then ((berthref20_Reader_fail.f s0_0 (wrap64 (x1001_1+1)) x1002_1 x1003_1 205 s0_1).bind fun bt309=>(some (0,bt309.1,bt309.2.1,bt309.2.2))) else (some (wrap64 (x8_1+(wrap64 ((Int.tmod (wrap64 (rd s0_0 x1001_1)) 128)*x9_1))),(wrap64 (x1001_1+1)),x1002_1,x1003_1))))) else (if (wrap64 (x8_1+(wrap64 ((Int.tmod (wrap64 (rd s0_0 x1001_1)) 128)*x9_1))))<a1 then ((berthref20_Reader_fail.f s0_0 (wrap64 (x1001_1+1)) x1002_1 x1003_1 205 s0_1).bind fun bt312=>(some (0,bt312.1,bt312.2.1,bt312.2.2))) else (if (wrap64 (x8_1+(wrap64 ((Int.tmod (wrap64 (rd s0_0 x1001_1)) 128)*x9_1)))) > a2 then ((berthref20_Reader_fail.f s0_0 (wrap64 (x1001_1+1)) x1002_1 x1003_1 205 s0_1).bind fun bt315=>(some (0,bt315.1,bt315.2.1,bt315.2.2))) else (some (wrap64 (x8_1+(wrap64 ((Int.tmod (wrap64 (rd s0_0 x1001_1)) 128)*x9_1))),(wrap64 (x1001_1+1)),x1002_1,x1003_1))))) else (berthref20_Reader_count.l0 kj11 a1 a2 s0_1 (wrap64 (x8_1+(wrap64 ((Int.tmod (wrap64 (rd s0_0 x1001_1)) 128)*x9_1)))) (wrap64 (x9_1*128)) s0_0 (wrap64 (x1001_1+1)) x1002_1 x1003_1))=some (r1,r2,r3,r4):=by rw [if_neg (show ¬(false=true) by decide)] at H;exact H
          clear H
          have H:=H1
          clear H1
          by_cases c20:(wrap64 (rd s0_0 x1001_1))<128
          ·
           rw [if_pos c20] at H
           have c20b0:decide ((wrap64 (rd s0_0 x1001_1))<128)=true:=decide_eq_true c20
           (try (have c20b1:decide ((IntKind.i64.wrap (rd s0_0 x1001_1))<128)=true:=by have h_:decide ((wrap64 (rd s0_0 x1001_1))<128)=true:=decide_eq_true c20;simp only [cZu];exact h_))
           clear c20
           by_cases c21:(wrap64 (rd s0_0 x1001_1))=0
           ·
            rw [if_pos c21] at H
            have c21b0:((wrap64 (rd s0_0 x1001_1)) == 0)=true:=beq_iff_eq.mpr c21
            have c21b1:((wrap64 (rd s0_0 x1001_1)) != 0)=false:=bne_eq_false_iff_eq.mpr c21
            (try (have c21b2:((IntKind.i64.wrap (rd s0_0 x1001_1)) == 0)=true:=by have h_:((wrap64 (rd s0_0 x1001_1)) == 0)=true:=beq_iff_eq.mpr c21;simp only [cZu];exact h_))
            (try (have c21b3:((IntKind.i64.wrap (rd s0_0 x1001_1)) != 0)=false:=by have h_:((wrap64 (rd s0_0 x1001_1)) != 0)=false:=bne_eq_false_iff_eq.mpr c21;simp only [cZu];exact h_))
            clear c21
            by_cases c22:(wrap64 ((wrap64 (x1001_1+1)) - s0_1)) > 1
            ·
             rw [if_pos c22] at H
             have c22b0:decide (1<(wrap64 ((wrap64 (x1001_1+1)) - s0_1)))=true:=decide_eq_true c22
             (try (have c22b1:decide (1<(IntKind.i64.wrap ((IntKind.i64.wrap (x1001_1+1)) - s0_1)))=true:=by have h_:decide (1<(wrap64 ((wrap64 (x1001_1+1)) - s0_1)))=true:=decide_eq_true c22;simp only [cZu];exact h_))
             clear c22
             replace H:=Option.bind_eq_some_iff.mp H
             obtain ⟨⟨t303,t304,t305⟩,A230,H⟩:=H
             replace H:(some (0,t303,t304,t305))=some (r1,r2,r3,r4):=H
             have A23:=Aside0.mk A230
             clear A230
             simp only [Option.some.injEq,Prod.mk.injEq] at H
             obtain ⟨rfl,rfl,rfl,rfl⟩:=H
             obtain ⟨ASz24_0,cSz24_0,HGz24,hgz24,HSz24_0⟩:=HI0.out.old
             have hcz24_0:=aZy HGz24
             have hcz24_1:=aZx HGz24
             have hcz24_2:=aZw HGz24
             have hcz24_3:=aZv HGz24
             have hfz24_1:=aZf HGz24 1
             have hfz24_2:=aZf HGz24 2
             have hfz24_3:=aZf HGz24 3
             clear HGz24 hgz24
             go_wp2_with ((go_at_call 66;(with_reducible refine (berthref20_Reader_fail.calls g s0_0 (wrap64 (x1001_1+1)) x1002_1 x1003_1 202 s0_1 t303 t304 t305 w0 _ ?side1 ?side2 A23.out).mono ?_);(case side1=>repeat ((with_reducible exact HI0.out)));(case side2=>repeat ((with_reducible exact HB.out)));rintro e w25 ⟨rfl,hi,hb,hk⟩;replace HK:=Aside0.mk (KeepBut.trans (HK.out) hk (.inl rfl));replace HB:=Aside0.mk (hb);replace HI0:=Aside0.mk (hi);(try clear hb);(try clear hk);(try clear hi)))
             go_ret
             exact ⟨by rfl,HI0.out,HB.out,HK.out⟩
            ·
             rw [if_neg c22] at H
             have c22b0:decide (1<(wrap64 ((wrap64 (x1001_1+1)) - s0_1)))=false:=decide_eq_false c22
             (try (have c22b1:decide (1<(IntKind.i64.wrap ((IntKind.i64.wrap (x1001_1+1)) - s0_1)))=false:=by have h_:decide (1<(wrap64 ((wrap64 (x1001_1+1)) - s0_1)))=false:=decide_eq_false c22;simp only [cZu];exact h_))
             clear c22
             by_cases c26:(wrap64 (x8_1+(wrap64 ((Int.tmod (wrap64 (rd s0_0 x1001_1)) 128)*x9_1))))<a1
             ·
              rw [if_pos c26] at H
              have c26b0:decide ((wrap64 (x8_1+(wrap64 ((Int.tmod (wrap64 (rd s0_0 x1001_1)) 128)*x9_1))))<a1)=true:=decide_eq_true c26
              (try (have c26b1:decide ((IntKind.i64.wrap (x8_1+(IntKind.i64.wrap ((Int.tmod (IntKind.i64.wrap (rd s0_0 x1001_1)) 128)*x9_1))))<a1)=true:=by have h_:decide ((wrap64 (x8_1+(wrap64 ((Int.tmod (wrap64 (rd s0_0 x1001_1)) 128)*x9_1))))<a1)=true:=decide_eq_true c26;simp only [cZu];exact h_))
              clear c26
              replace H:=Option.bind_eq_some_iff.mp H
              obtain ⟨⟨t306,t307,t308⟩,A270,H⟩:=H
              replace H:(some (0,t306,t307,t308))=some (r1,r2,r3,r4):=H
              have A27:=Aside0.mk A270
              clear A270
              simp only [Option.some.injEq,Prod.mk.injEq] at H
              obtain ⟨rfl,rfl,rfl,rfl⟩:=H
              obtain ⟨ASz28_0,cSz28_0,HGz28,hgz28,HSz28_0⟩:=HI0.out.old
              have hcz28_0:=aZy HGz28
              have hcz28_1:=aZx HGz28
              have hcz28_2:=aZw HGz28
              have hcz28_3:=aZv HGz28
              have hfz28_1:=aZf HGz28 1
              have hfz28_2:=aZf HGz28 2
              have hfz28_3:=aZf HGz28 3
              clear HGz28 hgz28
              go_wp2_with ((go_at_call 66;(with_reducible refine (berthref20_Reader_fail.calls g s0_0 (wrap64 (x1001_1+1)) x1002_1 x1003_1 205 s0_1 t306 t307 t308 w0 _ ?side1 ?side2 A27.out).mono ?_);(case side1=>repeat ((with_reducible exact HI0.out)));(case side2=>repeat ((with_reducible exact HB.out)));rintro e w29 ⟨rfl,hi,hb,hk⟩;replace HK:=Aside0.mk (KeepBut.trans (HK.out) hk (.inl rfl));replace HB:=Aside0.mk (hb);replace HI0:=Aside0.mk (hi);(try clear hb);(try clear hk);(try clear hi)))
              go_ret
              exact ⟨by rfl,HI0.out,HB.out,HK.out⟩
             ·
              rw [if_neg c26] at H
              have c26b0:decide ((wrap64 (x8_1+(wrap64 ((Int.tmod (wrap64 (rd s0_0 x1001_1)) 128)*x9_1))))<a1)=false:=decide_eq_false c26
              (try (have c26b1:decide ((IntKind.i64.wrap (x8_1+(IntKind.i64.wrap ((Int.tmod (IntKind.i64.wrap (rd s0_0 x1001_1)) 128)*x9_1))))<a1)=false:=by have h_:decide ((wrap64 (x8_1+(wrap64 ((Int.tmod (wrap64 (rd s0_0 x1001_1)) 128)*x9_1))))<a1)=false:=decide_eq_false c26;simp only [cZu];exact h_))
              clear c26
              by_cases c30:(wrap64 (x8_1+(wrap64 ((Int.tmod (wrap64 (rd s0_0 x1001_1)) 128)*x9_1)))) > a2
              ·
               rw [if_pos c30] at H
               have c30b0:decide (a2<(wrap64 (x8_1+(wrap64 ((Int.tmod (wrap64 (rd s0_0 x1001_1)) 128)*x9_1)))))=true:=decide_eq_true c30
               (try (have c30b1:decide (a2<(IntKind.i64.wrap (x8_1+(IntKind.i64.wrap ((Int.tmod (IntKind.i64.wrap (rd s0_0 x1001_1)) 128)*x9_1)))))=true:=by have h_:decide (a2<(wrap64 (x8_1+(wrap64 ((Int.tmod (wrap64 (rd s0_0 x1001_1)) 128)*x9_1)))))=true:=decide_eq_true c30;simp only [cZu];exact h_))
               clear c30
               replace H:=Option.bind_eq_some_iff.mp H
               obtain ⟨⟨t309,t310,t311⟩,A310,H⟩:=H
               replace H:(some (0,t309,t310,t311))=some (r1,r2,r3,r4):=H
               have A31:=Aside0.mk A310
               clear A310
               simp only [Option.some.injEq,Prod.mk.injEq] at H
               obtain ⟨rfl,rfl,rfl,rfl⟩:=H
               obtain ⟨ASz32_0,cSz32_0,HGz32,hgz32,HSz32_0⟩:=HI0.out.old
               have hcz32_0:=aZy HGz32
               have hcz32_1:=aZx HGz32
               have hcz32_2:=aZw HGz32
               have hcz32_3:=aZv HGz32
               have hfz32_1:=aZf HGz32 1
               have hfz32_2:=aZf HGz32 2
               have hfz32_3:=aZf HGz32 3
               clear HGz32 hgz32
               go_wp2_with ((go_at_call 66;(with_reducible refine (berthref20_Reader_fail.calls g s0_0 (wrap64 (x1001_1+1)) x1002_1 x1003_1 205 s0_1 t309 t310 t311 w0 _ ?side1 ?side2 A31.out).mono ?_);(case side1=>repeat ((with_reducible exact HI0.out)));(case side2=>repeat ((with_reducible exact HB.out)));rintro e w33 ⟨rfl,hi,hb,hk⟩;replace HK:=Aside0.mk (KeepBut.trans (HK.out) hk (.inl rfl));replace HB:=Aside0.mk (hb);replace HI0:=Aside0.mk (hi);(try clear hb);(try clear hk);(try clear hi)))
               go_ret
               exact ⟨by rfl,HI0.out,HB.out,HK.out⟩
              ·
               rw [if_neg c30] at H
               have c30b0:decide (a2<(wrap64 (x8_1+(wrap64 ((Int.tmod (wrap64 (rd s0_0 x1001_1)) 128)*x9_1)))))=false:=decide_eq_false c30
               (try (have c30b1:decide (a2<(IntKind.i64.wrap (x8_1+(IntKind.i64.wrap ((Int.tmod (IntKind.i64.wrap (rd s0_0 x1001_1)) 128)*x9_1)))))=false:=by have h_:decide (a2<(wrap64 (x8_1+(wrap64 ((Int.tmod (wrap64 (rd s0_0 x1001_1)) 128)*x9_1)))))=false:=decide_eq_false c30;simp only [cZu];exact h_))
               clear c30
               simp only [Option.some.injEq,Prod.mk.injEq] at H
               obtain ⟨rfl,rfl,rfl,rfl⟩:=H
               obtain ⟨ASz34_0,cSz34_0,HGz34,hgz34,HSz34_0⟩:=HI0.out.old
               have hcz34_0:=aZy HGz34
               have hcz34_1:=aZx HGz34
               have hcz34_2:=aZw HGz34
               have hcz34_3:=aZv HGz34
               have hfz34_1:=aZf HGz34 1
               have hfz34_2:=aZf HGz34 2
               have hfz34_3:=aZf HGz34 3
               clear HGz34 hgz34
               go_wp2
               repeat (go_quiet (fail);try go_wp2)
               go_ret
               exact ⟨by rfl,HI0.out,HB.out,HK.out⟩
           ·
            rw [if_neg c21] at H
            have c21b0:((wrap64 (rd s0_0 x1001_1)) == 0)=false:=beq_eq_false_iff_ne.mpr c21
            have c21b1:((wrap64 (rd s0_0 x1001_1)) != 0)=true:=bne_iff_ne.mpr c21
            (try (have c21b2:((IntKind.i64.wrap (rd s0_0 x1001_1)) == 0)=false:=by have h_:((wrap64 (rd s0_0 x1001_1)) == 0)=false:=beq_eq_false_iff_ne.mpr c21;simp only [cZu];exact h_))
            (try (have c21b3:((IntKind.i64.wrap (rd s0_0 x1001_1)) != 0)=true:=by have h_:((wrap64 (rd s0_0 x1001_1)) != 0)=true:=bne_iff_ne.mpr c21;simp only [cZu];exact h_))
            by_cases c35:(wrap64 (x8_1+(wrap64 ((Int.tmod (wrap64 (rd s0_0 x1001_1)) 128)*x9_1))))<a1
            ·
             rw [if_pos c35] at H
             have c35b0:decide ((wrap64 (x8_1+(wrap64 ((Int.tmod (wrap64 (rd s0_0 x1001_1)) 128)*x9_1))))<a1)=true:=decide_eq_true c35
             (try (have c35b1:decide ((IntKind.i64.wrap (x8_1+(IntKind.i64.wrap ((Int.tmod (IntKind.i64.wrap (rd s0_0 x1001_1)) 128)*x9_1))))<a1)=true:=by have h_:decide ((wrap64 (x8_1+(wrap64 ((Int.tmod (wrap64 (rd s0_0 x1001_1)) 128)*x9_1))))<a1)=true:=decide_eq_true c35;simp only [cZu];exact h_))
             clear c35
             replace H:=Option.bind_eq_some_iff.mp H
             obtain ⟨⟨t312,t313,t314⟩,A360,H⟩:=H
             replace H:(some (0,t312,t313,t314))=some (r1,r2,r3,r4):=H
             have A36:=Aside0.mk A360
             clear A360
             simp only [Option.some.injEq,Prod.mk.injEq] at H
             obtain ⟨rfl,rfl,rfl,rfl⟩:=H
             go_wp2_with ((go_at_call 66;(with_reducible refine (berthref20_Reader_fail.calls g s0_0 (wrap64 (x1001_1+1)) x1002_1 x1003_1 205 s0_1 t312 t313 t314 w0 _ ?side1 ?side2 A36.out).mono ?_);(case side1=>repeat ((with_reducible exact HI0.out)));(case side2=>repeat ((with_reducible exact HB.out)));rintro e w37 ⟨rfl,hi,hb,hk⟩;replace HK:=Aside0.mk (KeepBut.trans (HK.out) hk (.inl rfl));replace HB:=Aside0.mk (hb);replace HI0:=Aside0.mk (hi);(try clear hb);(try clear hk);(try clear hi)))
             go_ret
             exact ⟨by rfl,HI0.out,HB.out,HK.out⟩
            ·
             rw [if_neg c35] at H
             have c35b0:decide ((wrap64 (x8_1+(wrap64 ((Int.tmod (wrap64 (rd s0_0 x1001_1)) 128)*x9_1))))<a1)=false:=decide_eq_false c35
             (try (have c35b1:decide ((IntKind.i64.wrap (x8_1+(IntKind.i64.wrap ((Int.tmod (IntKind.i64.wrap (rd s0_0 x1001_1)) 128)*x9_1))))<a1)=false:=by have h_:decide ((wrap64 (x8_1+(wrap64 ((Int.tmod (wrap64 (rd s0_0 x1001_1)) 128)*x9_1))))<a1)=false:=decide_eq_false c35;simp only [cZu];exact h_))
             clear c35
             by_cases c38:(wrap64 (x8_1+(wrap64 ((Int.tmod (wrap64 (rd s0_0 x1001_1)) 128)*x9_1)))) > a2
             ·
              rw [if_pos c38] at H
              have c38b0:decide (a2<(wrap64 (x8_1+(wrap64 ((Int.tmod (wrap64 (rd s0_0 x1001_1)) 128)*x9_1)))))=true:=decide_eq_true c38
              (try (have c38b1:decide (a2<(IntKind.i64.wrap (x8_1+(IntKind.i64.wrap ((Int.tmod (IntKind.i64.wrap (rd s0_0 x1001_1)) 128)*x9_1)))))=true:=by have h_:decide (a2<(wrap64 (x8_1+(wrap64 ((Int.tmod (wrap64 (rd s0_0 x1001_1)) 128)*x9_1)))))=true:=decide_eq_true c38;simp only [cZu];exact h_))
              clear c38
              replace H:=Option.bind_eq_some_iff.mp H
              obtain ⟨⟨t315,t316,t317⟩,A390,H⟩:=H
              replace H:(some (0,t315,t316,t317))=some (r1,r2,r3,r4):=H
              have A39:=Aside0.mk A390
              clear A390
              simp only [Option.some.injEq,Prod.mk.injEq] at H
              obtain ⟨rfl,rfl,rfl,rfl⟩:=H
              go_wp2_with ((go_at_call 66;(with_reducible refine (berthref20_Reader_fail.calls g s0_0 (wrap64 (x1001_1+1)) x1002_1 x1003_1 205 s0_1 t315 t316 t317 w0 _ ?side1 ?side2 A39.out).mono ?_);(case side1=>repeat ((with_reducible exact HI0.out)));(case side2=>repeat ((with_reducible exact HB.out)));rintro e w40 ⟨rfl,hi,hb,hk⟩;replace HK:=Aside0.mk (KeepBut.trans (HK.out) hk (.inl rfl));replace HB:=Aside0.mk (hb);replace HI0:=Aside0.mk (hi);(try clear hb);(try clear hk);(try clear hi)))
              go_ret
              exact ⟨by rfl,HI0.out,HB.out,HK.out⟩
             ·
              rw [if_neg c38] at H
              have c38b0:decide (a2<(wrap64 (x8_1+(wrap64 ((Int.tmod (wrap64 (rd s0_0 x1001_1)) 128)*x9_1)))))=false:=decide_eq_false c38
              (try (have c38b1:decide (a2<(IntKind.i64.wrap (x8_1+(IntKind.i64.wrap ((Int.tmod (IntKind.i64.wrap (rd s0_0 x1001_1)) 128)*x9_1)))))=false:=by have h_:decide (a2<(wrap64 (x8_1+(wrap64 ((Int.tmod (wrap64 (rd s0_0 x1001_1)) 128)*x9_1)))))=false:=decide_eq_false c38;simp only [cZu];exact h_))
              clear c38
              simp only [Option.some.injEq,Prod.mk.injEq] at H
              obtain ⟨rfl,rfl,rfl,rfl⟩:=H
              go_wp2
              repeat (go_quiet (fail);try go_wp2)
              go_ret
              exact ⟨by rfl,HI0.out,HB.out,HK.out⟩
          ·
           rw [if_neg c20] at H
           have c20b0:decide ((wrap64 (rd s0_0 x1001_1))<128)=false:=decide_eq_false c20
           (try (have c20b1:decide ((IntKind.i64.wrap (rd s0_0 x1001_1))<128)=false:=by have h_:decide ((wrap64 (rd s0_0 x1001_1))<128)=false:=decide_eq_false c20;simp only [cZu];exact h_))
           clear c20
           have H':=Aside0.mk H
           clear H
           go_wp2
           repeat (go_quiet (fail);try go_wp2)
           go_roundg kj11
           case measure=>have:=HK1.out;have:=HJ11.out;omega
           case rel=>exact ⟨(wrap64 (x8_1+(wrap64 ((Int.tmod (wrap64 (rd s0_0 x1001_1)) 128)*x9_1)))),(wrap64 (x9_1*128)),((wrap64 (x1001_1+1))),(x1002_1),(x1003_1),(by rfl),(by rfl),H',⟨by have:=HK1.out;have:=HJ11.out;omega⟩,HI0,HK,HB⟩
      ·
       rw [if_neg c11] at H
       exact absurd H (by simp)
     ·
      rw [if_neg c10] at H
      exact absurd H (by simp)
 ·
  rw [if_neg c4] at H
  have c4b0:(s0_2 == 0)=false:=beq_eq_false_iff_ne.mpr c4
  have c4b1:(s0_2 != 0)=true:=bne_iff_ne.mpr c4
  simp only [Option.some.injEq,Prod.mk.injEq] at H
  obtain ⟨rfl,rfl,rfl,rfl⟩:=H
  obtain ⟨ASz41_0,cSz41_0,HGz41,hgz41,HSz41_0⟩:=HI0.out.old
  have hcz41_0:=aZy HGz41
  have hcz41_1:=aZx HGz41
  have hcz41_2:=aZw HGz41
  have hcz41_3:=aZv HGz41
  have hfz41_1:=aZf HGz41 1
  have hfz41_2:=aZf HGz41 2
  have hfz41_3:=aZf HGz41 3
  clear HGz41 hgz41
  go_enter Try.func61,Try.ntmps61
  go_wp2
  repeat (go_quiet (fail);try go_wp2)
  go_ret
  exact ⟨by rfl,HI0.out,HB.out,HK.out⟩
def berthref20_Reader_signed.f (k:Nat) (s0_0:List Int) (s0_1:Int) (s0_2:Int) (s0_3:Int):Option (Int × Int × Int × Int):=(berthref20_Reader_count.f k s0_0 s0_1 s0_2 s0_3 0 2000000000000000000).bind fun bt328=>(if (Int.tmod bt328.1 2)=0 then (some (wrap64 (Int.tdiv bt328.1 2),bt328.2.1,bt328.2.2.1,bt328.2.2.2)) else (some (wrap64 ((wrap64 (-(wrap64 (Int.tdiv bt328.1 2)))) - 1),bt328.2.1,bt328.2.2.1,bt328.2.2.2)))
theorem berthref20_Reader_signed.mono:∀ a0 a1 a2 a3 k,LeO (berthref20_Reader_signed.f k a0 a1 a2 a3) (berthref20_Reader_signed.f (k+1) a0 a1 a2 a3):=by
  intro a0 a1 a2 a3 k
  unfold berthref20_Reader_signed.f
  repeat' first|(with_reducible exact berthref20_Reader_count.mono _ _ _ _ _ _ _)|(with_reducible exact LeO.refl _)|(with_reducible refine LeO.bind ?_ (fun _=>?_))
theorem berthref20_Reader_signed.calls (k:Nat) (g:Nat) (s0_0:List Int) (s0_1:Int) (s0_2:Int) (s0_3:Int) (r1:Int) (r2:Int) (r3:Int) (r4:Int) (w0 w:World) (hI:IsS136 w0 w g s0_0 s0_1 s0_2 s0_3) (hB:Below w0.heap.size w0 w) (h:berthref20_Reader_signed.f k s0_0 s0_1 s0_2 s0_3=some (r1,r2,r3,r4)) :
 Calls Try.prog 100 #[.pointer (some ⟨g,0,none⟩)] w fun e w'=>e=.returned (.int .i64 r1)∧IsS136 w0 w' g s0_0 r2 r3 r4∧Below w0.heap.size w0 w'∧KeepBut w w' g none:=by
 have HI0:=Aside0.mk hI
 have HK:=Aside0.mk (KeepBut.refl w g none)
 have HL:=Aside0.mk hB.size
 clear hI
 have HW0:=Aside0.mk hB.size
 have HB:=Aside0.mk hB
 clear hB
 have H:((berthref20_Reader_count.f k s0_0 s0_1 s0_2 s0_3 0 2000000000000000000).bind fun bt328=>(if (Int.tmod bt328.1 2)=0 then (some (wrap64 (Int.tdiv bt328.1 2),bt328.2.1,bt328.2.2.1,bt328.2.2.2)) else (some (wrap64 ((wrap64 (-(wrap64 (Int.tdiv bt328.1 2)))) - 1),bt328.2.1,bt328.2.2.1,bt328.2.2.2))))=some (r1,r2,r3,r4):=h
 clear h
 replace H:=Option.bind_eq_some_iff.mp H
 obtain ⟨⟨t328,t329,t330,t331⟩,A20,H⟩:=H
 replace H:(if (Int.tmod t328 2)=0 then (some (wrap64 (Int.tdiv t328 2),t329,t330,t331)) else (some (wrap64 ((wrap64 (-(wrap64 (Int.tdiv t328 2)))) - 1),t329,t330,t331)))=some (r1,r2,r3,r4):=H
 have A2:=Aside0.mk A20
 clear A20
 by_cases c3:(Int.tmod t328 2)=0
 ·
  rw [if_pos c3] at H
  simp only [Option.some.injEq,Prod.mk.injEq] at H
  obtain ⟨rfl,rfl,rfl,rfl⟩:=H
  go_enter Try.func100,Try.ntmps100
  go_wp2_with (((with_reducible refine aZj (f:=61) rfl ?_);refine aZN (some 5) rfl rfl Try.func61 (by kernel_rfl) rfl #[.pointer (some ⟨g,0,none⟩),.int .i64 0,.int .i64 2000000000000000000] rfl (by (try simp only [List.map_toArray,List.map_cons,List.map_nil]);rfl) ?_;(with_reducible refine (berthref20_Reader_count.calls k g s0_0 s0_1 s0_2 s0_3 0 2000000000000000000 t328 t329 t330 t331 w0 _ ?side1 ?side2 A2.out).mono ?_);(case side1=>repeat ((with_reducible exact HI0.out)));(case side2=>repeat ((with_reducible exact HB.out)));rintro e w4 ⟨rfl,hi,hb,hk⟩;refine ⟨_,rfl,?_⟩;replace HK:=Aside0.mk (KeepBut.trans (HK.out) hk (.inl rfl));replace HB:=Aside0.mk (hb);replace HI0:=Aside0.mk (hi);(try clear hb);(try clear hk);(try clear hi)))
  go_ret
  exact ⟨by rfl,HI0.out,HB.out,HK.out⟩
 ·
  rw [if_neg c3] at H
  simp only [Option.some.injEq,Prod.mk.injEq] at H
  obtain ⟨rfl,rfl,rfl,rfl⟩:=H
  go_enter Try.func100,Try.ntmps100
  go_wp2_with (((with_reducible refine aZj (f:=61) rfl ?_);refine aZN (some 5) rfl rfl Try.func61 (by kernel_rfl) rfl #[.pointer (some ⟨g,0,none⟩),.int .i64 0,.int .i64 2000000000000000000] rfl (by (try simp only [List.map_toArray,List.map_cons,List.map_nil]);rfl) ?_;(with_reducible refine (berthref20_Reader_count.calls k g s0_0 s0_1 s0_2 s0_3 0 2000000000000000000 t328 t329 t330 t331 w0 _ ?side1 ?side2 A2.out).mono ?_);(case side1=>repeat ((with_reducible exact HI0.out)));(case side2=>repeat ((with_reducible exact HB.out)));rintro e w5 ⟨rfl,hi,hb,hk⟩;refine ⟨_,rfl,?_⟩;replace HK:=Aside0.mk (KeepBut.trans (HK.out) hk (.inl rfl));replace HB:=Aside0.mk (hb);replace HI0:=Aside0.mk (hi);(try clear hb);(try clear hk);(try clear hi)))
  go_ret
  exact ⟨by rfl,HI0.out,HB.out,HK.out⟩
mutual
def berthref20_Reader_nums.l0:Nat→Int→List Int→Int→List Int→Int→Int→Int→Option (List Int × Int × Int × Int)
  | 0,_,_,_,_,_,_,_=>none
  | k+1,x1,x5,x6,x1000,x1001,x1002,x1003=>if x6<x1 then (berthref20_Reader_nums.j1 k x1 x5 x6 (x1002 == 0) x1000 x1001 x1002 x1003) else (berthref20_Reader_nums.j1 k x1 x5 x6 false x1000 x1001 x1002 x1003)
def berthref20_Reader_nums.j1:Nat→Int→List Int→Int→Bool→List Int→Int→Int→Int→Option (List Int × Int × Int × Int)
  | 0,_,_,_,_,_,_,_,_=>none
  | k+1,x1,x5,x6,x19,x1000,x1001,x1002,x1003=>if x19=true then ((berthref20_Reader_signed.f k x1000 x1001 x1002 x1003).bind fun bt335=>(if x6 > 0 then (if bt335.2.2.1=0 then (if 0≤(wrap64 (x6 - 1)) then (if (wrap64 (x6 - 1))<(x5.length:Int) then (if bt335.1≤(rd x5 (wrap64 (x6 - 1))) then ((berthref20_Reader_fail.f x1000 bt335.2.1 bt335.2.2.1 bt335.2.2.2 204 x1001).bind fun bt340=>(if x5.length<17592186044416 then (berthref20_Reader_nums.l0 k x1 (x5++[bt335.1]) (wrap64 (x6+1)) x1000 bt340.1 bt340.2.1 bt340.2.2) else (none))) else (if x5.length<17592186044416 then (berthref20_Reader_nums.l0 k x1 (x5++[bt335.1]) (wrap64 (x6+1)) x1000 bt335.2.1 bt335.2.2.1 bt335.2.2.2) else (none))) else (none)) else (none)) else (if x5.length<17592186044416 then (berthref20_Reader_nums.l0 k x1 (x5++[bt335.1]) (wrap64 (x6+1)) x1000 bt335.2.1 bt335.2.2.1 bt335.2.2.2) else (none))) else (if x5.length<17592186044416 then (berthref20_Reader_nums.l0 k x1 (x5++[bt335.1]) (wrap64 (x6+1)) x1000 bt335.2.1 bt335.2.2.1 bt335.2.2.2) else (none)))) else (some (x5,x1001,x1002,x1003))
end
def berthref20_Reader_nums.f (k:Nat) (s0_0:List Int) (s0_1:Int) (s0_2:Int) (s0_3:Int) (a1:Int):Option (List Int × Int × Int × Int):=berthref20_Reader_nums.l0 k a1 (([]:List Int)) 0 s0_0 s0_1 s0_2 s0_3
theorem berthref20_Reader_nums.calls (k:Nat) (g:Nat) (s0_0:List Int) (s0_1:Int) (s0_2:Int) (s0_3:Int) (a1:Int) (r1:List Int) (r2:Int) (r3:Int) (r4:Int) (w0 w:World) (hI:IsS136 w0 w g s0_0 s0_1 s0_2 s0_3) (hB:Below w0.heap.size w0 w) (h:berthref20_Reader_nums.f k s0_0 s0_1 s0_2 s0_3 a1=some (r1,r2,r3,r4)) :
 Calls Try.prog 63 #[.pointer (some ⟨g,0,none⟩),.int .i64 a1] w fun e w'=>∃ v0_:Value,e=.returned (v0_)∧Kd.R (Kd.int .i64) 3 w' w.heap.size (fun _=>True) v0_ r1∧IsS136 w0 w' g s0_0 r2 r3 r4∧Below w0.heap.size w0 w'∧KeepBut w w' g none:=by
 have HI0:=Aside0.mk hI
 have HK:=Aside0.mk (KeepBut.refl w g none)
 have HL:=Aside0.mk hB.size
 clear hI
 have HW0:=Aside0.mk hB.size
 have HB:=Aside0.mk hB
 clear hB
 have H:(berthref20_Reader_nums.l0 k a1 (([]:List Int)) 0 s0_0 s0_1 s0_2 s0_3)=some (r1,r2,r3,r4):=h
 clear h
 obtain ⟨y332,hy332⟩:∃ y_:List Int,y_=(([]:List Int)):=⟨_,rfl⟩
 replace H:(berthref20_Reader_nums.l0 k a1 y332 0 s0_0 s0_1 s0_2 s0_3)=some (r1,r2,r3,r4):=by (rw [hy332];with_reducible exact H)
 have Ny332:=Aside0.mk hy332
 clear hy332
 have H':=Aside0.mk H
 clear H
 go_enter Try.func63,Try.ntmps63
 go_wp2_with (((with_reducible refine cZq (N:=9) rfl ?_);refine Kd.R_lit (Kd.int .i64) _ 3 ?hg (N:=9) ?hd (xs:=([]:List Int)) (inner:=[]) (ok:=fun _=>True) (okp:=fun _=>True) ?hr ?hp (fun _ hk=>hk) trivial (Below.refl _ _) (Nat.le_refl _) (by simp) ?_;(case hd=>rfl);(case hg=>rfl);(case hr=>(go_simp;done));(case hp=>exact (Reps.none _ _));intro v333 w3 ho4 hb hg_ hnew_;clear hg_ hnew_;(rw [←Ny332.out] at ho4);have HO334:=Aside0.mk (Kd.R_lower ho4 (cZE (w:=w) (g:=g) (row:=none) (HK.out)));replace HI0:=Aside0.mk (IsS136.below (HI0.out) hb);replace HK:=Aside0.mk (KeepBut.trans (HK.out) (KeepBut.of_below hb g none) (.inl rfl));replace HB:=Aside0.mk (fZu (HB.out) hb);clear hb ho4))
 go_loopg [5,6] k (fun kq v5 v6 w'=>∃ (x5_1:List Int) (x6_1:Int) (x1001_1:Int) (x1002_1:Int) (x1003_1:Int),v6=.int .i64 x6_1∧Aside0 (berthref20_Reader_nums.l0 kq a1 x5_1 x6_1 s0_0 x1001_1 x1002_1 x1003_1=some (r1,r2,r3,r4))∧Aside0 (kq≤k)∧Aside0 (Kd.R (Kd.int .i64) 3 w' w.heap.size (fun _=>True) v5 x5_1)∧Aside0 (IsS136 w0 w' g s0_0 x1001_1 x1002_1 x1003_1)∧Aside0 (KeepBut w w' g none)∧Aside0 (Below w0.heap.size w0 w'))
 case atStart=>exact ⟨(y332),(0),(s0_1),(s0_2),(s0_3),(by rfl),H',⟨Nat.le_refl _⟩,HO334,HI0,HK,HB⟩
 case round =>
  clear H'
  try clear p2
  obtain ⟨x5_1,x6_1,x1001_1,x1002_1,x1003_1,rfl,HA,HK1,HO_5,HI0,HK,HB⟩:=hrel
  cases gk with
  | zero=>exact absurd HA.out (by simp [berthref20_Reader_nums.l0])
  | succ k1 =>
   have H:=HA.out
   clear HA
   simp only [berthref20_Reader_nums.l0] at H
   have HC5:=Aside0.mk H
   clear H
   go_upto_region 3 with (fail)
   go_cut [19] (fun v19 wc=>∃ (kq:Nat) (x19_4:Bool),v19=.bool x19_4∧Aside0 (berthref20_Reader_nums.j1 kq a1 x5_1 x6_1 x19_4 s0_0 x1001_1 x1002_1 x1003_1=some (r1,r2,r3,r4))∧Aside0 (kq≤k1)∧Aside0 (Kd.R (Kd.int .i64) 3 wc w.heap.size (fun _=>True) u5 x5_1)∧Aside0 (IsS136 w0 wc g s0_0 x1001_1 x1002_1 x1003_1)∧Aside0 (KeepBut w wc g none)∧Aside0 (Below w0.heap.size w0 wc))
   case first =>
    have H:=HC5.out
    clear HC5
    by_cases c6:x6_1<a1
    ·
     rw [if_pos c6] at H
     have c6b0:decide (x6_1<a1)=true:=decide_eq_true c6
     clear c6
     (skip)
     have H':=Aside0.mk H
     clear H
     obtain ⟨ASz7_0,cSz7_0,HGz7,hgz7,HSz7_0⟩:=HI0.out.old
     have hcz7_0:=aZy HGz7
     have hcz7_1:=aZx HGz7
     have hcz7_2:=aZw HGz7
     have hcz7_3:=aZv HGz7
     have hfz7_1:=aZf HGz7 1
     have hfz7_2:=aZf HGz7 2
     have hfz7_3:=aZf HGz7 3
     clear HGz7 hgz7
     go_wp2
     go_meet
     case rel=>exact ⟨_,((x1002_1 == 0)),(by rfl),H',⟨by have:=HK1.out;omega⟩,HO_5,HI0,HK,HB⟩
    ·
     rw [if_neg c6] at H
     have H':=Aside0.mk H
     clear H
     go_wp2
     go_meet
     case rel=>exact ⟨_,(false),(by rfl),H',⟨by have:=HK1.out;omega⟩,HO_5,HI0,HK,HB⟩
   case rest =>
    clear HC5
    (try clear hfz7_2);(try clear hfz7_3);(try clear p2)
    obtain ⟨kq,x19_4,rfl,HA,HJ4,HO_5,HI0,HK,HB⟩:=hcut
    cases kq with
    | zero=>exact absurd HA.out (by simp [berthref20_Reader_nums.j1])
    | succ kj4 =>
     have H:=HA.out
     clear HA
     simp only [berthref20_Reader_nums.j1] at H
     by_cases c8:x19_4=true
     ·
      subst c8
      have H1:((berthref20_Reader_signed.f kj4 s0_0 x1001_1 x1002_1 x1003_1).bind fun bt335=>(if x6_1 > 0 then (if bt335.2.2.1=0 then (if 0≤(wrap64 (x6_1 - 1)) then (if (wrap64 (x6_1 - 1))<(x5_1.length:Int) then (if bt335.1≤(rd x5_1 (wrap64 (x6_1 - 1))) then ((berthref20_Reader_fail.f s0_0 bt335.2.1 bt335.2.2.1 bt335.2.2.2 204 x1001_1).bind fun bt340=>(if x5_1.length<17592186044416 then (berthref20_Reader_nums.l0 kj4 a1 (x5_1++[bt335.1]) (wrap64 (x6_1+1)) s0_0 bt340.1 bt340.2.1 bt340.2.2) else (none))) else (if x5_1.length<17592186044416 then (berthref20_Reader_nums.l0 kj4 a1 (x5_1++[bt335.1]) (wrap64 (x6_1+1)) s0_0 bt335.2.1 bt335.2.2.1 bt335.2.2.2) else (none))) else (none)) else (none)) else (if x5_1.length<17592186044416 then (berthref20_Reader_nums.l0 kj4 a1 (x5_1++[bt335.1]) (wrap64 (x6_1+1)) s0_0 bt335.2.1 bt335.2.2.1 bt335.2.2.2) else (none))) else (if x5_1.length<17592186044416 then (berthref20_Reader_nums.l0 kj4 a1 (x5_1++[bt335.1]) (wrap64 (x6_1+1)) s0_0 bt335.2.1 bt335.2.2.1 bt335.2.2.2) else (none))))=some (r1,r2,r3,r4):=by rw [if_pos rfl] at H;exact H
      clear H
      have H:=H1
      clear H1
      replace H:=Option.bind_eq_some_iff.mp H
      obtain ⟨⟨t335,t336,t337,t338⟩,A90,H⟩:=H
      replace H:(if x6_1 > 0 then (if t337=0 then (if 0≤(wrap64 (x6_1 - 1)) then (if (wrap64 (x6_1 - 1))<(x5_1.length:Int) then (if t335≤(rd x5_1 (wrap64 (x6_1 - 1))) then ((berthref20_Reader_fail.f s0_0 t336 t337 t338 204 x1001_1).bind fun bt340=>(if x5_1.length<17592186044416 then (berthref20_Reader_nums.l0 kj4 a1 (x5_1++[t335]) (wrap64 (x6_1+1)) s0_0 bt340.1 bt340.2.1 bt340.2.2) else (none))) else (if x5_1.length<17592186044416 then (berthref20_Reader_nums.l0 kj4 a1 (x5_1++[t335]) (wrap64 (x6_1+1)) s0_0 t336 t337 t338) else (none))) else (none)) else (none)) else (if x5_1.length<17592186044416 then (berthref20_Reader_nums.l0 kj4 a1 (x5_1++[t335]) (wrap64 (x6_1+1)) s0_0 t336 t337 t338) else (none))) else (if x5_1.length<17592186044416 then (berthref20_Reader_nums.l0 kj4 a1 (x5_1++[t335]) (wrap64 (x6_1+1)) s0_0 t336 t337 t338) else (none)))=some (r1,r2,r3,r4):=H
      have A9:=Aside0.mk A90
      clear A90
      by_cases c10:x6_1 > 0
      ·
       rw [if_pos c10] at H
       have c10b0:decide (0<x6_1)=true:=decide_eq_true c10
       clear c10
       by_cases c11:t337=0
       ·
        rw [if_pos c11] at H
        have c11b0:(t337 == 0)=true:=beq_iff_eq.mpr c11
        have c11b1:(t337 != 0)=false:=bne_eq_false_iff_eq.mpr c11
        clear c11
        obtain ⟨ji12,hji12⟩:∃ j_:Int,(wrap64 (x6_1 - 1))=j_:=⟨_,rfl⟩
        replace H:(if 0≤(ji12) then (if (ji12)<(x5_1.length:Int) then (if t335≤(rd x5_1 (ji12)) then ((berthref20_Reader_fail.f s0_0 t336 t337 t338 204 x1001_1).bind fun bt340=>(if x5_1.length<17592186044416 then (berthref20_Reader_nums.l0 kj4 a1 (x5_1++[t335]) (wrap64 (x6_1+1)) s0_0 bt340.1 bt340.2.1 bt340.2.2) else (none))) else (if x5_1.length<17592186044416 then (berthref20_Reader_nums.l0 kj4 a1 (x5_1++[t335]) (wrap64 (x6_1+1)) s0_0 t336 t337 t338) else (none))) else (none)) else (none))=some (r1,r2,r3,r4):=by (rw [hji12] at H;exact H)
        (try rw [hji12] at A9)
        have hji12w:(IntKind.i64.wrap (x6_1 - 1))=ji12:=(cZu _).trans hji12
        by_cases c13:0≤(ji12)
        ·
         rw [if_pos c13] at H
         have c13b0:decide (0≤(ji12))=true:=decide_eq_true c13
         clear c13
         by_cases c14:(ji12)<(x5_1.length:Int)
         ·
          rw [if_pos c14] at H
          have c14b0:decide ((ji12)<(x5_1.length:Int))=true:=decide_eq_true c14
          clear c14
          by_cases c15:t335≤(rd x5_1 (ji12))
          ·
           rw [if_pos c15] at H
           have c15b0:decide (t335≤(rd x5_1 (ji12)))=true:=decide_eq_true c15
           clear c15
           replace H:=Option.bind_eq_some_iff.mp H
           obtain ⟨⟨t340,t341,t342⟩,A160,H⟩:=H
           replace H:(if x5_1.length<17592186044416 then (berthref20_Reader_nums.l0 kj4 a1 (x5_1++[t335]) (wrap64 (x6_1+1)) s0_0 t340 t341 t342) else (none))=some (r1,r2,r3,r4):=H
           have A16:=Aside0.mk A160
           clear A160
           by_cases c17:x5_1.length<17592186044416
           ·
            rw [if_pos c17] at H
            have LMc17:=Aside0.mk c17
            clear c17
            obtain ⟨y343,hy343⟩:∃ y_:List Int,y_=(x5_1++[t335]):=⟨_,rfl⟩
            replace H:(berthref20_Reader_nums.l0 kj4 a1 y343 (wrap64 (x6_1+1)) s0_0 t340 t341 t342)=some (r1,r2,r3,r4):=by (rw [hy343];with_reducible exact H)
            have Ny343:=Aside0.mk hy343
            clear hy343
            have H':=Aside0.mk H
            clear H
            obtain ⟨ASz18_0,cSz18_0,HGz18,hgz18,HSz18_0⟩:=HI0.out.old
            have hcz18_0:=aZy HGz18
            have hcz18_1:=aZx HGz18
            have hcz18_2:=aZw HGz18
            have hcz18_3:=aZv HGz18
            have hfz18_1:=aZf HGz18 1
            have hfz18_2:=aZf HGz18 2
            have hfz18_3:=aZf HGz18 3
            clear HGz18 hgz18
            go_wp2_with (first|((with_reducible refine aZj (f:=100) rfl ?_);refine aZN (some 27) rfl rfl Try.func100 (by kernel_rfl) rfl #[.pointer (some ⟨g,0,none⟩)] rfl (by (try simp only [List.map_toArray,List.map_cons,List.map_nil]);rfl) ?_;(with_reducible refine (berthref20_Reader_signed.calls kj4 g s0_0 x1001_1 x1002_1 x1003_1 t335 t336 t337 t338 w0 _ ?side1 ?side2 A9.out).mono ?_);(case side1=>repeat ((with_reducible exact HI0.out)));(case side2=>repeat ((with_reducible exact HB.out)));rintro e w19 ⟨rfl,hi,hb,hk⟩;refine ⟨_,rfl,?_⟩;replace HO_5:=Aside0.mk (Kd.R_mono (Kd.R_keep (IsS136.apart (show IsS136 w0 _ g s0_0 x1001_1 x1002_1 x1003_1 from HI0.out) (HO_5.out) (by decide)) hk (fun _ h=>h.2)) (fun _ h=>h.1));replace HK:=Aside0.mk (KeepBut.trans (HK.out) hk (.inl rfl));replace HB:=Aside0.mk (hb);replace HI0:=Aside0.mk (hi);(try clear hb);(try clear hk);(try clear hi);obtain ⟨ASz20_0,cSz20_0,HGz20,hgz20,HSz20_0⟩:=HI0.out;have hcz20_0:=aZy HGz20;have hcz20_1:=aZx HGz20;have hcz20_2:=aZw HGz20;have hcz20_3:=aZv HGz20;have hfz20_1:=aZf HGz20 1;have hfz20_2:=aZf HGz20 2;have hfz20_3:=aZf HGz20 3;clear HGz20 hgz20;obtain ⟨Ao21,co21,eo21⟩:=Kd.R_slice HO_5.out;subst eo21;have p339:0≤((ji12):Int):=of_decide_eq_true (by (with_reducible assumption));have q339:(ji12)<(x5_1.length:Int):=of_decide_eq_true (by (with_reducible assumption));obtain ⟨ad339,e339,hx339_0⟩:=Kd.at_int (Kd.R_reads' HO_5.out).2.2 (ji12) p339 q339;cases e339;replace p339:=eq_true p339;replace q339:=eq_true q339)|((with_reducible refine aZj (f:=66) rfl ?_);refine aZN (some 48) rfl rfl Try.func66 (by kernel_rfl) rfl #[.pointer (some ⟨g,0,none⟩),.int .i64 204,.int .i64 x1001_1] rfl (by (try simp only [List.map_toArray,List.map_cons,List.map_nil]);rfl) ?_;(with_reducible refine (berthref20_Reader_fail.calls g s0_0 t336 t337 t338 204 x1001_1 t340 t341 t342 w0 _ ?side1 ?side2 A16.out).mono ?_);(case side1=>repeat ((with_reducible exact HI0.out)));(case side2=>repeat ((with_reducible exact HB.out)));rintro e w22 ⟨rfl,hi,hb,hk⟩;refine ⟨_,rfl,?_⟩;replace HO_5:=Aside0.mk (Kd.R_mono (Kd.R_keep (IsS136.apart (show IsS136 w0 _ g s0_0 t336 t337 t338 from HI0.out) (HO_5.out) (by decide)) hk (fun _ h=>h.2)) (fun _ h=>h.1));replace HK:=Aside0.mk (KeepBut.trans (HK.out) hk (.inl rfl));replace HB:=Aside0.mk (hb);replace HI0:=Aside0.mk (hi);(try clear hb);(try clear hk);(try clear hi))|((with_reducible refine aZh (b:=.append) (xs:=#[.tmp 49,.tmp 51]) rfl ?_);at_builtin;refine Kd.R_append (Kd.int .i64) w.heap.size rfl (.tmp 49) (.tmp 51) 23 3 (.int .i64 0) 8 rfl Try.underlying23 info3 rfl (by decide) (by omega) (.slice (some ad339) x5_1.length co21) x5_1 t335 [.int .i64 t335] (fun _=>True) (fun _=>False) rfl rfl ?aP (fun _ hk=>hk.elim) ?aF ?aO (Below.refl _ _) ?aS ?aL ?_;(case aP=>exact rfl);(case aF=>exact (fun _ _=>trivial));(case aO=>exact (HO_5.out));(case aS=>exact (cZE (w:=w) (g:=g) (row:=none) (HK.out)));(case aL=>have:=LMc17.out;omega);intro v344 w23 ho hb hg hat;rw [←Ny343.out] at ho;replace HI0:=Aside0.mk (IsS136.grown (HI0.out) hg (IsS136.own_ne HI0.out HO_5.out (by decide)));replace HB:=Aside0.mk (cZr (HB.out) HL.out hb);replace HK:=Aside0.mk (KeepBut.trans (HK.out) (KeepBut.of_grown hg g) (Kd.R_base2 HO_5.out));have HO345:=Aside0.mk (ho);clear ho hb hg hat))
            go_roundg kj4
            case measure=>have:=HK1.out;have:=HJ4.out;omega
            case rel=>exact ⟨(y343),(wrap64 (x6_1+1)),(t340),(t341),(t342),(by rfl),H',⟨by have:=HK1.out;have:=HJ4.out;omega⟩,HO345,HI0,HK,HB⟩
           ·
            rw [if_neg c17] at H
            exact absurd H (by simp)
          ·
           rw [if_neg c15] at H
           have c15b0:decide (t335≤(rd x5_1 (ji12)))=false:=decide_eq_false c15
           clear c15
           by_cases c24:x5_1.length<17592186044416
           ·
            rw [if_pos c24] at H
            have LMc24:=Aside0.mk c24
            clear c24
            obtain ⟨y346,hy346⟩:∃ y_:List Int,y_=(x5_1++[t335]):=⟨_,rfl⟩
            replace H:(berthref20_Reader_nums.l0 kj4 a1 y346 (wrap64 (x6_1+1)) s0_0 t336 t337 t338)=some (r1,r2,r3,r4):=by (rw [hy346];with_reducible exact H)
            have Ny346:=Aside0.mk hy346
            clear hy346
            have H':=Aside0.mk H
            clear H
            obtain ⟨ASz25_0,cSz25_0,HGz25,hgz25,HSz25_0⟩:=HI0.out.old
            have hcz25_0:=aZy HGz25
            have hcz25_1:=aZx HGz25
            have hcz25_2:=aZw HGz25
            have hcz25_3:=aZv HGz25
            have hfz25_1:=aZf HGz25 1
            have hfz25_2:=aZf HGz25 2
            have hfz25_3:=aZf HGz25 3
            clear HGz25 hgz25
            go_wp2_with (first|((with_reducible refine aZj (f:=100) rfl ?_);refine aZN (some 27) rfl rfl Try.func100 (by kernel_rfl) rfl #[.pointer (some ⟨g,0,none⟩)] rfl (by (try simp only [List.map_toArray,List.map_cons,List.map_nil]);rfl) ?_;(with_reducible refine (berthref20_Reader_signed.calls kj4 g s0_0 x1001_1 x1002_1 x1003_1 t335 t336 t337 t338 w0 _ ?side1 ?side2 A9.out).mono ?_);(case side1=>repeat ((with_reducible exact HI0.out)));(case side2=>repeat ((with_reducible exact HB.out)));rintro e w26 ⟨rfl,hi,hb,hk⟩;refine ⟨_,rfl,?_⟩;replace HO_5:=Aside0.mk (Kd.R_mono (Kd.R_keep (IsS136.apart (show IsS136 w0 _ g s0_0 x1001_1 x1002_1 x1003_1 from HI0.out) (HO_5.out) (by decide)) hk (fun _ h=>h.2)) (fun _ h=>h.1));replace HK:=Aside0.mk (KeepBut.trans (HK.out) hk (.inl rfl));replace HB:=Aside0.mk (hb);replace HI0:=Aside0.mk (hi);(try clear hb);(try clear hk);(try clear hi);obtain ⟨ASz27_0,cSz27_0,HGz27,hgz27,HSz27_0⟩:=HI0.out;have hcz27_0:=aZy HGz27;have hcz27_1:=aZx HGz27;have hcz27_2:=aZw HGz27;have hcz27_3:=aZv HGz27;have hfz27_1:=aZf HGz27 1;have hfz27_2:=aZf HGz27 2;have hfz27_3:=aZf HGz27 3;clear HGz27 hgz27;obtain ⟨Ao28,co28,eo28⟩:=Kd.R_slice HO_5.out;subst eo28;have p339:0≤((ji12):Int):=of_decide_eq_true (by (with_reducible assumption));have q339:(ji12)<(x5_1.length:Int):=of_decide_eq_true (by (with_reducible assumption));obtain ⟨ad339,e339,hx339_0⟩:=Kd.at_int (Kd.R_reads' HO_5.out).2.2 (ji12) p339 q339;cases e339;replace p339:=eq_true p339;replace q339:=eq_true q339)|((with_reducible refine aZh (b:=.append) (xs:=#[.tmp 49,.tmp 51]) rfl ?_);at_builtin;refine Kd.R_append (Kd.int .i64) w.heap.size rfl (.tmp 49) (.tmp 51) 23 3 (.int .i64 0) 8 rfl Try.underlying23 info3 rfl (by decide) (by omega) (.slice (some ad339) x5_1.length co28) x5_1 t335 [.int .i64 t335] (fun _=>True) (fun _=>False) rfl rfl ?aP (fun _ hk=>hk.elim) ?aF ?aO (Below.refl _ _) ?aS ?aL ?_;(case aP=>exact rfl);(case aF=>exact (fun _ _=>trivial));(case aO=>exact (HO_5.out));(case aS=>exact (cZE (w:=w) (g:=g) (row:=none) (HK.out)));(case aL=>have:=LMc24.out;omega);intro v347 w29 ho hb hg hat;rw [←Ny346.out] at ho;replace HI0:=Aside0.mk (IsS136.grown (HI0.out) hg (IsS136.own_ne HI0.out HO_5.out (by decide)));replace HB:=Aside0.mk (cZr (HB.out) HL.out hb);replace HK:=Aside0.mk (KeepBut.trans (HK.out) (KeepBut.of_grown hg g) (Kd.R_base2 HO_5.out));have HO348:=Aside0.mk (ho);clear ho hb hg hat))
            go_roundg kj4
            case measure=>have:=HK1.out;have:=HJ4.out;omega
            case rel=>exact ⟨(y346),(wrap64 (x6_1+1)),(t336),(t337),(t338),(by rfl),H',⟨by have:=HK1.out;have:=HJ4.out;omega⟩,HO348,HI0,HK,HB⟩
           ·
            rw [if_neg c24] at H
            exact absurd H (by simp)
         ·
          rw [if_neg c14] at H
          exact absurd H (by simp)
        ·
         rw [if_neg c13] at H
         exact absurd H (by simp)
       ·
        rw [if_neg c11] at H
        have c11b0:(t337 == 0)=false:=beq_eq_false_iff_ne.mpr c11
        have c11b1:(t337 != 0)=true:=bne_iff_ne.mpr c11
        by_cases c30:x5_1.length<17592186044416
        ·
         rw [if_pos c30] at H
         have LMc30:=Aside0.mk c30
         clear c30
         obtain ⟨y349,hy349⟩:∃ y_:List Int,y_=(x5_1++[t335]):=⟨_,rfl⟩
         replace H:(berthref20_Reader_nums.l0 kj4 a1 y349 (wrap64 (x6_1+1)) s0_0 t336 t337 t338)=some (r1,r2,r3,r4):=by (rw [hy349];with_reducible exact H)
         have Ny349:=Aside0.mk hy349
         clear hy349
         have H':=Aside0.mk H
         clear H
         obtain ⟨ASz31_0,cSz31_0,HGz31,hgz31,HSz31_0⟩:=HI0.out.old
         have hcz31_0:=aZy HGz31
         have hcz31_1:=aZx HGz31
         have hcz31_2:=aZw HGz31
         have hcz31_3:=aZv HGz31
         have hfz31_1:=aZf HGz31 1
         have hfz31_2:=aZf HGz31 2
         have hfz31_3:=aZf HGz31 3
         clear HGz31 hgz31
         go_wp2_with (first|((with_reducible refine aZj (f:=100) rfl ?_);refine aZN (some 27) rfl rfl Try.func100 (by kernel_rfl) rfl #[.pointer (some ⟨g,0,none⟩)] rfl (by (try simp only [List.map_toArray,List.map_cons,List.map_nil]);rfl) ?_;(with_reducible refine (berthref20_Reader_signed.calls kj4 g s0_0 x1001_1 x1002_1 x1003_1 t335 t336 t337 t338 w0 _ ?side1 ?side2 A9.out).mono ?_);(case side1=>repeat ((with_reducible exact HI0.out)));(case side2=>repeat ((with_reducible exact HB.out)));rintro e w32 ⟨rfl,hi,hb,hk⟩;refine ⟨_,rfl,?_⟩;replace HO_5:=Aside0.mk (Kd.R_mono (Kd.R_keep (IsS136.apart (show IsS136 w0 _ g s0_0 x1001_1 x1002_1 x1003_1 from HI0.out) (HO_5.out) (by decide)) hk (fun _ h=>h.2)) (fun _ h=>h.1));replace HK:=Aside0.mk (KeepBut.trans (HK.out) hk (.inl rfl));replace HB:=Aside0.mk (hb);replace HI0:=Aside0.mk (hi);(try clear hb);(try clear hk);(try clear hi);obtain ⟨ASz33_0,cSz33_0,HGz33,hgz33,HSz33_0⟩:=HI0.out;have hcz33_0:=aZy HGz33;have hcz33_1:=aZx HGz33;have hcz33_2:=aZw HGz33;have hcz33_3:=aZv HGz33;have hfz33_1:=aZf HGz33 1;have hfz33_2:=aZf HGz33 2;have hfz33_3:=aZf HGz33 3;clear HGz33 hgz33)|((with_reducible refine aZh (b:=.append) (xs:=#[.tmp 49,.tmp 51]) rfl ?_);at_builtin;refine Kd.R_append (Kd.int .i64) w.heap.size rfl (.tmp 49) (.tmp 51) 23 3 (.int .i64 0) 8 rfl Try.underlying23 info3 rfl (by decide) (by omega) u5 x5_1 t335 [.int .i64 t335] (fun _=>True) (fun _=>False) rfl rfl ?aP (fun _ hk=>hk.elim) ?aF ?aO (Below.refl _ _) ?aS ?aL ?_;(case aP=>exact rfl);(case aF=>exact (fun _ _=>trivial));(case aO=>exact (HO_5.out));(case aS=>exact (cZE (w:=w) (g:=g) (row:=none) (HK.out)));(case aL=>have:=LMc30.out;omega);intro v350 w34 ho hb hg hat;rw [←Ny349.out] at ho;replace HI0:=Aside0.mk (IsS136.grown (HI0.out) hg (IsS136.own_ne HI0.out HO_5.out (by decide)));replace HB:=Aside0.mk (cZr (HB.out) HL.out hb);replace HK:=Aside0.mk (KeepBut.trans (HK.out) (KeepBut.of_grown hg g) (Kd.R_base2 HO_5.out));have HO351:=Aside0.mk (ho);clear ho hb hg hat))
         go_roundg kj4
         case measure=>have:=HK1.out;have:=HJ4.out;omega
         case rel=>exact ⟨(y349),(wrap64 (x6_1+1)),(t336),(t337),(t338),(by rfl),H',⟨by have:=HK1.out;have:=HJ4.out;omega⟩,HO351,HI0,HK,HB⟩
        ·
         rw [if_neg c30] at H
         exact absurd H (by simp)
      ·
       rw [if_neg c10] at H
       have c10b0:decide (0<x6_1)=false:=decide_eq_false c10
       clear c10
       by_cases c35:x5_1.length<17592186044416
       ·
        rw [if_pos c35] at H
        have LMc35:=Aside0.mk c35
        clear c35
        obtain ⟨y352,hy352⟩:∃ y_:List Int,y_=(x5_1++[t335]):=⟨_,rfl⟩
        replace H:(berthref20_Reader_nums.l0 kj4 a1 y352 (wrap64 (x6_1+1)) s0_0 t336 t337 t338)=some (r1,r2,r3,r4):=by (rw [hy352];with_reducible exact H)
        have Ny352:=Aside0.mk hy352
        clear hy352
        have H':=Aside0.mk H
        clear H
        obtain ⟨ASz36_0,cSz36_0,HGz36,hgz36,HSz36_0⟩:=HI0.out.old
        have hcz36_0:=aZy HGz36
        have hcz36_1:=aZx HGz36
        have hcz36_2:=aZw HGz36
        have hcz36_3:=aZv HGz36
        have hfz36_1:=aZf HGz36 1
        have hfz36_2:=aZf HGz36 2
        have hfz36_3:=aZf HGz36 3
        clear HGz36 hgz36
        go_wp2_with (first|((with_reducible refine aZj (f:=100) rfl ?_);refine aZN (some 27) rfl rfl Try.func100 (by kernel_rfl) rfl #[.pointer (some ⟨g,0,none⟩)] rfl (by (try simp only [List.map_toArray,List.map_cons,List.map_nil]);rfl) ?_;(with_reducible refine (berthref20_Reader_signed.calls kj4 g s0_0 x1001_1 x1002_1 x1003_1 t335 t336 t337 t338 w0 _ ?side1 ?side2 A9.out).mono ?_);(case side1=>repeat ((with_reducible exact HI0.out)));(case side2=>repeat ((with_reducible exact HB.out)));rintro e w37 ⟨rfl,hi,hb,hk⟩;refine ⟨_,rfl,?_⟩;replace HO_5:=Aside0.mk (Kd.R_mono (Kd.R_keep (IsS136.apart (show IsS136 w0 _ g s0_0 x1001_1 x1002_1 x1003_1 from HI0.out) (HO_5.out) (by decide)) hk (fun _ h=>h.2)) (fun _ h=>h.1));replace HK:=Aside0.mk (KeepBut.trans (HK.out) hk (.inl rfl));replace HB:=Aside0.mk (hb);replace HI0:=Aside0.mk (hi);(try clear hb);(try clear hk);(try clear hi))|((with_reducible refine aZh (b:=.append) (xs:=#[.tmp 49,.tmp 51]) rfl ?_);at_builtin;refine Kd.R_append (Kd.int .i64) w.heap.size rfl (.tmp 49) (.tmp 51) 23 3 (.int .i64 0) 8 rfl Try.underlying23 info3 rfl (by decide) (by omega) u5 x5_1 t335 [.int .i64 t335] (fun _=>True) (fun _=>False) rfl rfl ?aP (fun _ hk=>hk.elim) ?aF ?aO (Below.refl _ _) ?aS ?aL ?_;(case aP=>exact rfl);(case aF=>exact (fun _ _=>trivial));(case aO=>exact (HO_5.out));(case aS=>exact (cZE (w:=w) (g:=g) (row:=none) (HK.out)));(case aL=>have:=LMc35.out;omega);intro v353 w38 ho hb hg hat;rw [←Ny352.out] at ho;replace HI0:=Aside0.mk (IsS136.grown (HI0.out) hg (IsS136.own_ne HI0.out HO_5.out (by decide)));replace HB:=Aside0.mk (cZr (HB.out) HL.out hb);replace HK:=Aside0.mk (KeepBut.trans (HK.out) (KeepBut.of_grown hg g) (Kd.R_base2 HO_5.out));have HO354:=Aside0.mk (ho);clear ho hb hg hat))
        go_roundg kj4
        case measure=>have:=HK1.out;have:=HJ4.out;omega
        case rel=>exact ⟨(y352),(wrap64 (x6_1+1)),(t336),(t337),(t338),(by rfl),H',⟨by have:=HK1.out;have:=HJ4.out;omega⟩,HO354,HI0,HK,HB⟩
       ·
        rw [if_neg c35] at H
        exact absurd H (by simp)
     ·
      replace c8:=Bool.eq_false_iff.mpr c8
      subst c8
      have H1:(some (x5_1,x1001_1,x1002_1,x1003_1))=some (r1,r2,r3,r4):=by rw [if_neg (show ¬(false=true) by decide)] at H;exact H
      clear H
      have H:=H1
      clear H1
      simp only [Option.some.injEq,Prod.mk.injEq] at H
      obtain ⟨rfl,rfl,rfl,rfl⟩:=H
      go_wp2
      go_ret
      exact ⟨_,by rfl,HO_5.out,HI0.out,HB.out,HK.out⟩
end Go.Proofs.Ytbnplhmmbnmagaa.All
namespace Go.Proofs.Ytbnplhmmbnmagaa.All
open Go.RowKit Go.Proofs.YtbnplhmmbnmagaaW.PrintWords Go.Proofs.YtbnplhmmbnmagaaW.PrintLast Go.Proofs.YtbnplhmmbnmagaaW.PrintMore
attribute [local go_sem] bZN bZL cZj cZh bZn bZm bZM bZK
attribute [local go_sem] Go.Proofs.YtbnplhmmbnmagaaX.binOp_leq Go.Proofs.YtbnplhmmbnmagaaX.binOp_geq Go.Proofs.YtbnplhmmbnmagaaX.binOp_gtr
mutual
def berthref20_LessTexts.l0:Nat→List ByteArray→List ByteArray→Int→Option (Bool)
  | 0,_,_,_=>none
  | k+1,x0,x1,x5=>if x5<(x0.length:Int) then (berthref20_LessTexts.j1 k x0 x1 x5 (decide (x5<(x1.length:Int)))) else (berthref20_LessTexts.j1 k x0 x1 x5 false)
def berthref20_LessTexts.j1:Nat→List ByteArray→List ByteArray→Int→Bool→Option (Bool)
  | 0,_,_,_,_=>none
  | k+1,x0,x1,x5,x15=>if x15=true then (if 0≤x5 then (if x5<(x0.length:Int) then (if x5<(x1.length:Int) then (if (rdOf ByteArray.empty x0 x5).toList=(rdOf ByteArray.empty x1 x5).toList then (berthref20_LessTexts.l0 k x0 x1 (wrap64 (x5+1))) else (some (Op.bytesLess ((rdOf ByteArray.empty x0 x5).toList) ((rdOf ByteArray.empty x1 x5).toList)))) else (none)) else (none)) else (none)) else (some (decide ((x0.length:Int)<(x1.length:Int))))
end
def berthref20_LessTexts.f (k:Nat) (l0:List ByteArray) (l1:List ByteArray):Option (Bool):=berthref20_LessTexts.l0 k l0 l1 0
theorem berthref20_LessTexts.calls (k:Nat) (A0:Option Addr) (c0:Nat) (l0:List ByteArray) (A1:Option Addr) (c1:Nat) (l1:List ByteArray) (r:Bool) (w:World) (hr0:Kd.C Kd.string w A0 l0.length l0) (hc0:l0.length≤c0) (hr1:Kd.C Kd.string w A1 l1.length l1) (hc1:l1.length≤c1) (h:berthref20_LessTexts.f k l0 l1=some r) :
 Calls Try.prog 67 #[.slice A0 l0.length c0,.slice A1 l1.length c1] w fun e w'=>e=.returned (.bool r)∧Drawn0 w w':=by
 have HR0:=Aside0.mk hr0
 have HC0:=Aside0.mk hc0
 clear hr0 hc0
 have HR1:=Aside0.mk hr1
 have HC1:=Aside0.mk hc1
 clear hr1 hc1
 have H:(berthref20_LessTexts.l0 k l0 l1 0)=some r:=h
 clear h
 have H':=Aside0.mk H
 clear H
 go_enter Try.func67,Try.ntmps67
 go_wp2
 repeat (go_quiet (fail);try go_wp2)
 go_loopg [5] k (fun kq v5 w'=>∃ (x5_1:Int),v5=.int .i64 x5_1∧Aside0 (berthref20_LessTexts.l0 kq l0 l1 x5_1=some r)∧Aside0 (kq≤k)∧Drawn0 w w')
 case atStart=>exact ⟨(0),(by rfl),H',⟨Nat.le_refl _⟩,by repeat (exact Drawn0.refl _)⟩
 case round =>
  clear H'
  obtain ⟨x5_1,rfl,HA,HK1,⟨m1,rfl⟩⟩:=hrel
  cases gk with
  | zero=>exact absurd HA.out (by simp [berthref20_LessTexts.l0])
  | succ k1 =>
   have H:=HA.out
   clear HA
   simp only [berthref20_LessTexts.l0] at H
   have HC3:=Aside0.mk H
   clear H
   go_upto_region 2 with (fail)
   repeat (go_quiet (fail);go_upto_region 2 with (fail))
   go_cut [15] (fun v15 wc=>∃ (kq:Nat) (x15_2:Bool),v15=.bool x15_2∧Aside0 (berthref20_LessTexts.j1 kq l0 l1 x5_1 x15_2=some r)∧Aside0 (kq≤k1)∧Drawn0 w wc)
   case first =>
    have H:=HC3.out
    clear HC3
    by_cases c4:x5_1<(l0.length:Int)
    ·
     rw [if_pos c4] at H
     have c4b0:decide (x5_1<(l0.length:Int))=true:=decide_eq_true c4
     clear c4
     have H':=Aside0.mk H
     clear H
     go_wp2
     repeat (go_quiet (fail);try go_wp2)
     go_meet
     case rel=>exact ⟨_,(decide (x5_1<(l1.length:Int))),(by rfl),H',⟨by have:=HK1.out;omega⟩,by repeat (first|exact Drawn0.refl _|apply Drawn0.step)⟩
    ·
     rw [if_neg c4] at H
     have c4b0:decide (x5_1<(l0.length:Int))=false:=decide_eq_false c4
     clear c4
     have H':=Aside0.mk H
     clear H
     go_wp2
     repeat (go_quiet (fail);try go_wp2)
     go_meet
     case rel=>exact ⟨_,(false),(by rfl),H',⟨by have:=HK1.out;omega⟩,by repeat (first|exact Drawn0.refl _|apply Drawn0.step)⟩
   case rest =>
    clear HC3
    obtain ⟨kq,x15_2,rfl,HA,HJ2,⟨mc2,rfl⟩⟩:=hcut
    cases kq with
    | zero=>exact absurd HA.out (by simp [berthref20_LessTexts.j1])
    | succ kj2 =>
     have H:=HA.out
     clear HA
     simp only [berthref20_LessTexts.j1] at H
     by_cases c5:x15_2=true
     ·
      subst c5
      have H1:(if 0≤x5_1 then (if x5_1<(l0.length:Int) then (if x5_1<(l1.length:Int) then (if (rdOf ByteArray.empty l0 x5_1).toList=(rdOf ByteArray.empty l1 x5_1).toList then (berthref20_LessTexts.l0 kj2 l0 l1 (wrap64 (x5_1+1))) else (some (Op.bytesLess ((rdOf ByteArray.empty l0 x5_1).toList) ((rdOf ByteArray.empty l1 x5_1).toList)))) else (none)) else (none)) else (none))=some r:=by rw [if_pos rfl] at H;exact H
      clear H
      have H:=H1
      clear H1
      by_cases c6:0≤x5_1
      ·
       rw [if_pos c6] at H
       have c6b0:decide (0≤x5_1)=true:=decide_eq_true c6
       clear c6
       by_cases c7:x5_1<(l0.length:Int)
       ·
        rw [if_pos c7] at H
        have c7b0:decide (x5_1<(l0.length:Int))=true:=decide_eq_true c7
        clear c7
        by_cases c8:x5_1<(l1.length:Int)
        ·
         rw [if_pos c8] at H
         have c8b0:decide (x5_1<(l1.length:Int))=true:=decide_eq_true c8
         clear c8
         by_cases c9:(rdOf ByteArray.empty l0 x5_1).toList=(rdOf ByteArray.empty l1 x5_1).toList
         ·
          rw [if_pos c9] at H
          have c9b0:((rdOf ByteArray.empty l0 x5_1).toList == (rdOf ByteArray.empty l1 x5_1).toList)=true:=beq_iff_eq.mpr c9
          have c9b1:((rdOf ByteArray.empty l0 x5_1).toList != (rdOf ByteArray.empty l1 x5_1).toList)=false:=bne_eq_false_iff_eq.mpr c9
          clear c9
          have H':=Aside0.mk H
          clear H
          have p355:0≤(x5_1:Int):=of_decide_eq_true (by (with_reducible assumption))
          have q355:x5_1<(l0.length:Int):=of_decide_eq_true (by (with_reducible assumption))
          obtain ⟨ad355,e355,hx355_0⟩:=Kd.at_string HR0.out x5_1 p355 q355
          cases e355
          replace p355:=eq_true p355
          replace q355:=eq_true q355
          have p356:0≤(x5_1:Int):=of_decide_eq_true (by (with_reducible assumption))
          have q356:x5_1<(l1.length:Int):=of_decide_eq_true (by (with_reducible assumption))
          obtain ⟨ad356,e356,hx356_0⟩:=Kd.at_string HR1.out x5_1 p356 q356
          cases e356
          replace p356:=eq_true p356
          replace q356:=eq_true q356
          go_wp2
          repeat (go_quiet (fail);try go_wp2)
          go_roundg kj2
          case measure=>have:=HK1.out;have:=HJ2.out;omega
          case rel=>exact ⟨(wrap64 (x5_1+1)),(by rfl),H',⟨by have:=HK1.out;have:=HJ2.out;omega⟩,by repeat (first|exact Drawn0.refl _|apply Drawn0.step)⟩
         ·
          rw [if_neg c9] at H
          have c9b0:((rdOf ByteArray.empty l0 x5_1).toList == (rdOf ByteArray.empty l1 x5_1).toList)=false:=beq_eq_false_iff_ne.mpr c9
          have c9b1:((rdOf ByteArray.empty l0 x5_1).toList != (rdOf ByteArray.empty l1 x5_1).toList)=true:=bne_iff_ne.mpr c9
          obtain rfl:=Option.some.inj H
          have p355:0≤(x5_1:Int):=of_decide_eq_true (by (with_reducible assumption))
          have q355:x5_1<(l0.length:Int):=of_decide_eq_true (by (with_reducible assumption))
          obtain ⟨ad355,e355,hx355_0⟩:=Kd.at_string HR0.out x5_1 p355 q355
          cases e355
          replace p355:=eq_true p355
          replace q355:=eq_true q355
          have p356:0≤(x5_1:Int):=of_decide_eq_true (by (with_reducible assumption))
          have q356:x5_1<(l1.length:Int):=of_decide_eq_true (by (with_reducible assumption))
          obtain ⟨ad356,e356,hx356_0⟩:=Kd.at_string HR1.out x5_1 p356 q356
          cases e356
          replace p356:=eq_true p356
          replace q356:=eq_true q356
          have p357:0≤(x5_1:Int):=of_decide_eq_true (by (with_reducible assumption))
          have q357:x5_1<(l0.length:Int):=of_decide_eq_true (by (with_reducible assumption))
          obtain ⟨ad357,e357,hx357_0⟩:=Kd.at_string HR0.out x5_1 p357 q357
          obtain rfl:ad355=ad357:=(by injection e357)
          replace p357:=eq_true p357
          replace q357:=eq_true q357
          have p358:0≤(x5_1:Int):=of_decide_eq_true (by (with_reducible assumption))
          have q358:x5_1<(l1.length:Int):=of_decide_eq_true (by (with_reducible assumption))
          obtain ⟨ad358,e358,hx358_0⟩:=Kd.at_string HR1.out x5_1 p358 q358
          obtain rfl:ad356=ad358:=(by injection e358)
          replace p358:=eq_true p358
          replace q358:=eq_true q358
          go_wp2
          repeat (go_quiet (fail);try go_wp2)
          go_ret
          exact ⟨by rfl,by repeat (first|exact Drawn0.refl _|apply Drawn0.step)⟩
        ·
         rw [if_neg c8] at H
         exact absurd H (by simp)
       ·
        rw [if_neg c7] at H
        exact absurd H (by simp)
      ·
       rw [if_neg c6] at H
       exact absurd H (by simp)
     ·
      replace c5:=Bool.eq_false_iff.mpr c5
      subst c5
      have H1:(some (decide ((l0.length:Int)<(l1.length:Int))))=some r:=by rw [if_neg (show ¬(false=true) by decide)] at H;exact H
      clear H
      have H:=H1
      clear H1
      obtain rfl:=Option.some.inj H
      go_wp2
      repeat (go_quiet (fail);try go_wp2)
      go_ret
      exact ⟨by rfl,by repeat (first|exact Drawn0.refl _|apply Drawn0.step)⟩
mutual
def berthref20_LessNums.l0:Nat→List Int→List Int→Int→Option (Bool)
  | 0,_,_,_=>none
  | k+1,x0,x1,x5=>if x5<(x0.length:Int) then (berthref20_LessNums.j1 k x0 x1 x5 (decide (x5<(x1.length:Int)))) else (berthref20_LessNums.j1 k x0 x1 x5 false)
def berthref20_LessNums.j1:Nat→List Int→List Int→Int→Bool→Option (Bool)
  | 0,_,_,_,_=>none
  | k+1,x0,x1,x5,x15=>if x15=true then (if 0≤x5 then (if x5<(x0.length:Int) then (if x5<(x1.length:Int) then (if (rd x0 x5)=(rd x1 x5) then (berthref20_LessNums.l0 k x0 x1 (wrap64 (x5+1))) else (some (decide ((rd x0 x5)<(rd x1 x5))))) else (none)) else (none)) else (none)) else (some (decide ((x0.length:Int)<(x1.length:Int))))
end
def berthref20_LessNums.f (k:Nat) (l0:List Int) (l1:List Int):Option (Bool):=berthref20_LessNums.l0 k l0 l1 0
theorem berthref20_LessNums.calls (k:Nat) (A0:Option Addr) (c0:Nat) (l0:List Int) (A1:Option Addr) (c1:Nat) (l1:List Int) (r:Bool) (w:World) (hr0:Kd.C (Kd.int .i64) w A0 l0.length l0) (hc0:l0.length≤c0) (hr1:Kd.C (Kd.int .i64) w A1 l1.length l1) (hc1:l1.length≤c1) (h:berthref20_LessNums.f k l0 l1=some r) :
 Calls Try.prog 68 #[.slice A0 l0.length c0,.slice A1 l1.length c1] w fun e w'=>e=.returned (.bool r)∧Drawn0 w w':=by
 have HR0:=Aside0.mk hr0
 have HC0:=Aside0.mk hc0
 clear hr0 hc0
 have HR1:=Aside0.mk hr1
 have HC1:=Aside0.mk hc1
 clear hr1 hc1
 have H:(berthref20_LessNums.l0 k l0 l1 0)=some r:=h
 clear h
 have H':=Aside0.mk H
 clear H
 go_enter Try.func68,Try.ntmps68
 go_wp2
 repeat (go_quiet (fail);try go_wp2)
 go_loopg [5] k (fun kq v5 w'=>∃ (x5_1:Int),v5=.int .i64 x5_1∧Aside0 (berthref20_LessNums.l0 kq l0 l1 x5_1=some r)∧Aside0 (kq≤k)∧Drawn0 w w')
 case atStart=>exact ⟨(0),(by rfl),H',⟨Nat.le_refl _⟩,by repeat (exact Drawn0.refl _)⟩
 case round =>
  clear H'
  obtain ⟨x5_1,rfl,HA,HK1,⟨m1,rfl⟩⟩:=hrel
  cases gk with
  | zero=>exact absurd HA.out (by simp [berthref20_LessNums.l0])
  | succ k1 =>
   have H:=HA.out
   clear HA
   simp only [berthref20_LessNums.l0] at H
   have HC3:=Aside0.mk H
   clear H
   go_upto_region 2 with (fail)
   repeat (go_quiet (fail);go_upto_region 2 with (fail))
   go_cut [15] (fun v15 wc=>∃ (kq:Nat) (x15_2:Bool),v15=.bool x15_2∧Aside0 (berthref20_LessNums.j1 kq l0 l1 x5_1 x15_2=some r)∧Aside0 (kq≤k1)∧Drawn0 w wc)
   case first =>
    have H:=HC3.out
    clear HC3
    by_cases c4:x5_1<(l0.length:Int)
    ·
     rw [if_pos c4] at H
     have c4b0:decide (x5_1<(l0.length:Int))=true:=decide_eq_true c4
     clear c4
     have H':=Aside0.mk H
     clear H
     go_wp2
     repeat (go_quiet (fail);try go_wp2)
     go_meet
     case rel=>exact ⟨_,(decide (x5_1<(l1.length:Int))),(by rfl),H',⟨by have:=HK1.out;omega⟩,by repeat (first|exact Drawn0.refl _|apply Drawn0.step)⟩
    ·
     rw [if_neg c4] at H
     have c4b0:decide (x5_1<(l0.length:Int))=false:=decide_eq_false c4
     clear c4
     have H':=Aside0.mk H
     clear H
     go_wp2
     repeat (go_quiet (fail);try go_wp2)
     go_meet
     case rel=>exact ⟨_,(false),(by rfl),H',⟨by have:=HK1.out;omega⟩,by repeat (first|exact Drawn0.refl _|apply Drawn0.step)⟩
   case rest =>
    clear HC3
    obtain ⟨kq,x15_2,rfl,HA,HJ2,⟨mc2,rfl⟩⟩:=hcut
    cases kq with
    | zero=>exact absurd HA.out (by simp [berthref20_LessNums.j1])
    | succ kj2 =>
     have H:=HA.out
     clear HA
     simp only [berthref20_LessNums.j1] at H
     by_cases c5:x15_2=true
     ·
      subst c5
      have H1:(if 0≤x5_1 then (if x5_1<(l0.length:Int) then (if x5_1<(l1.length:Int) then (if (rd l0 x5_1)=(rd l1 x5_1) then (berthref20_LessNums.l0 kj2 l0 l1 (wrap64 (x5_1+1))) else (some (decide ((rd l0 x5_1)<(rd l1 x5_1))))) else (none)) else (none)) else (none))=some r:=by rw [if_pos rfl] at H;exact H
      clear H
      have H:=H1
      clear H1
      by_cases c6:0≤x5_1
      ·
       rw [if_pos c6] at H
       have c6b0:decide (0≤x5_1)=true:=decide_eq_true c6
       clear c6
       by_cases c7:x5_1<(l0.length:Int)
       ·
        rw [if_pos c7] at H
        have c7b0:decide (x5_1<(l0.length:Int))=true:=decide_eq_true c7
        clear c7
        by_cases c8:x5_1<(l1.length:Int)
        ·
         rw [if_pos c8] at H
         have c8b0:decide (x5_1<(l1.length:Int))=true:=decide_eq_true c8
         clear c8
         by_cases c9:(rd l0 x5_1)=(rd l1 x5_1)
         ·
          rw [if_pos c9] at H
          have c9b0:((rd l0 x5_1) == (rd l1 x5_1))=true:=beq_iff_eq.mpr c9
          have c9b1:((rd l0 x5_1) != (rd l1 x5_1))=false:=bne_eq_false_iff_eq.mpr c9
          clear c9
          have H':=Aside0.mk H
          clear H
          have p359:0≤(x5_1:Int):=of_decide_eq_true (by (with_reducible assumption))
          have q359:x5_1<(l0.length:Int):=of_decide_eq_true (by (with_reducible assumption))
          obtain ⟨ad359,e359,hx359_0⟩:=Kd.at_int HR0.out x5_1 p359 q359
          cases e359
          replace p359:=eq_true p359
          replace q359:=eq_true q359
          have p360:0≤(x5_1:Int):=of_decide_eq_true (by (with_reducible assumption))
          have q360:x5_1<(l1.length:Int):=of_decide_eq_true (by (with_reducible assumption))
          obtain ⟨ad360,e360,hx360_0⟩:=Kd.at_int HR1.out x5_1 p360 q360
          cases e360
          replace p360:=eq_true p360
          replace q360:=eq_true q360
          go_wp2
          repeat (go_quiet (fail);try go_wp2)
          go_roundg kj2
          case measure=>have:=HK1.out;have:=HJ2.out;omega
          case rel=>exact ⟨(wrap64 (x5_1+1)),(by rfl),H',⟨by have:=HK1.out;have:=HJ2.out;omega⟩,by repeat (first|exact Drawn0.refl _|apply Drawn0.step)⟩
         ·
          rw [if_neg c9] at H
          have c9b0:((rd l0 x5_1) == (rd l1 x5_1))=false:=beq_eq_false_iff_ne.mpr c9
          have c9b1:((rd l0 x5_1) != (rd l1 x5_1))=true:=bne_iff_ne.mpr c9
          obtain rfl:=Option.some.inj H
          have p359:0≤(x5_1:Int):=of_decide_eq_true (by (with_reducible assumption))
          have q359:x5_1<(l0.length:Int):=of_decide_eq_true (by (with_reducible assumption))
          obtain ⟨ad359,e359,hx359_0⟩:=Kd.at_int HR0.out x5_1 p359 q359
          cases e359
          replace p359:=eq_true p359
          replace q359:=eq_true q359
          have p360:0≤(x5_1:Int):=of_decide_eq_true (by (with_reducible assumption))
          have q360:x5_1<(l1.length:Int):=of_decide_eq_true (by (with_reducible assumption))
          obtain ⟨ad360,e360,hx360_0⟩:=Kd.at_int HR1.out x5_1 p360 q360
          cases e360
          replace p360:=eq_true p360
          replace q360:=eq_true q360
          have p361:0≤(x5_1:Int):=of_decide_eq_true (by (with_reducible assumption))
          have q361:x5_1<(l0.length:Int):=of_decide_eq_true (by (with_reducible assumption))
          obtain ⟨ad361,e361,hx361_0⟩:=Kd.at_int HR0.out x5_1 p361 q361
          obtain rfl:ad359=ad361:=(by injection e361)
          replace p361:=eq_true p361
          replace q361:=eq_true q361
          have p362:0≤(x5_1:Int):=of_decide_eq_true (by (with_reducible assumption))
          have q362:x5_1<(l1.length:Int):=of_decide_eq_true (by (with_reducible assumption))
          obtain ⟨ad362,e362,hx362_0⟩:=Kd.at_int HR1.out x5_1 p362 q362
          obtain rfl:ad360=ad362:=(by injection e362)
          replace p362:=eq_true p362
          replace q362:=eq_true q362
          go_wp2
          repeat (go_quiet (fail);try go_wp2)
          go_ret
          exact ⟨by rfl,by repeat (first|exact Drawn0.refl _|apply Drawn0.step)⟩
        ·
         rw [if_neg c8] at H
         exact absurd H (by simp)
       ·
        rw [if_neg c7] at H
        exact absurd H (by simp)
      ·
       rw [if_neg c6] at H
       exact absurd H (by simp)
     ·
      replace c5:=Bool.eq_false_iff.mpr c5
      subst c5
      have H1:(some (decide ((l0.length:Int)<(l1.length:Int))))=some r:=by rw [if_neg (show ¬(false=true) by decide)] at H;exact H
      clear H
      have H:=H1
      clear H1
      obtain rfl:=Option.some.inj H
      go_wp2
      repeat (go_quiet (fail);try go_wp2)
      go_ret
      exact ⟨by rfl,by repeat (first|exact Drawn0.refl _|apply Drawn0.step)⟩
end Go.Proofs.Ytbnplhmmbnmagaa.All
