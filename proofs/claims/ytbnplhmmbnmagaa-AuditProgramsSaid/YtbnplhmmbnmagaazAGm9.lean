/- A part of the proof of AuditPrograms: walks written by a program of this session. -/
import Derived.Test.YtbnplhmmbnmagaazAGm2
set_option maxHeartbeats 4000000
set_option maxRecDepth 100000
set_option linter.unusedVariables false
set_option linter.unusedSimpArgs false
namespace Go.Proofs.Ytbnplhmmbnmagaa.All
open Go.RowKit Go.Proofs.YtbnplhmmbnmagaaW.PrintWords Go.Proofs.YtbnplhmmbnmagaaW.PrintLast Go.Proofs.YtbnplhmmbnmagaaW.PrintMore
attribute [local go_sem] bZO bZM cZa bZ9 bZj bZi bZN bZL
attribute [local go_sem] Go.Proofs.YtbnplhmmbnmagaaX.binOp_leq Go.Proofs.YtbnplhmmbnmagaaX.binOp_geq Go.Proofs.YtbnplhmmbnmagaaX.binOp_gtr
def berthref21_fits.f (l0_0:List ByteArray) (l0_1:List Int) (l0_2:List (List ByteArray)) (l0_3:List (List Int)) (l0_4:List (S66)) (a0_5:Int) (a0_6:Int) (a1:Int) (a2:Int):Option (Bool):=if a1=0 then (some (a2 == 0)) else (if a1=1 then (if a2=0 then (some true) else (some (a2 == 1))) else (if a1=2 then (if a2≥0 then (some (decide (a2<(l0_0.length:Int)))) else (some false)) else (if a1=3 then (if a2≥0 then (some (decide (a2<(l0_2.length:Int)))) else (some false)) else (if a1=4 then (if a2≥0 then (some (decide (a2<(l0_1.length:Int)))) else (some false)) else (if a1=5 then (if a2≥0 then (some (decide (a2<(l0_3.length:Int)))) else (some false)) else (if a1=6 then (if a2≥0 then (some (decide (a2<a0_6))) else (some false)) else (if a1=8 then (if a2≥1 then (some (decide (a2≤6))) else (some false)) else (some true))))))))
theorem berthref21_fits.calls (A0_0:Option Addr) (c0_0:Nat) (l0_0:List ByteArray) (A0_1:Option Addr) (c0_1:Nat) (l0_1:List Int) (A0_2:Option Addr) (c0_2:Nat) (l0_2:List (List ByteArray)) (A0_3:Option Addr) (c0_3:Nat) (l0_3:List (List Int)) (A0_4:Option Addr) (c0_4:Nat) (l0_4:List (S66)) (a0_5:Int) (a0_6:Int) (a1:Int) (a2:Int) (r:Bool) (w:World) (hr0_0:Kd.C Kd.string w A0_0 l0_0.length l0_0) (hc0_0:l0_0.length≤c0_0) (hr0_1:Kd.C (Kd.int .i64) w A0_1 l0_1.length l0_1) (hc0_1:l0_1.length≤c0_1) (hr0_2:Kd.C (Kd.slice 9 Kd.string) w A0_2 l0_2.length l0_2) (hc0_2:l0_2.length≤c0_2) (hr0_3:Kd.C (Kd.slice 3 (Kd.int .i64)) w A0_3 l0_3.length l0_3) (hc0_3:l0_3.length≤c0_3) (hr0_4:Kd.C k66 w A0_4 l0_4.length l0_4) (hc0_4:l0_4.length≤c0_4) (h:berthref21_fits.f l0_0 l0_1 l0_2 l0_3 l0_4 a0_5 a0_6 a1 a2=some r) :
 Calls Try.prog 97 #[.agg #[.slice A0_0 l0_0.length c0_0,.slice A0_1 l0_1.length c0_1,.slice A0_2 l0_2.length c0_2,.slice A0_3 l0_3.length c0_3,.slice A0_4 l0_4.length c0_4,.int .i64 a0_5,.int .i64 a0_6],.int .i64 a1,.int .i64 a2] w fun e w'=>e=.returned (.bool r)∧Below w.heap.size w w':=by
 have hu28:=Try.underlying28
 have HR0_0:=Aside0.mk hr0_0
 have HC0_0:=Aside0.mk hc0_0
 clear hr0_0 hc0_0
 have HR0_1:=Aside0.mk hr0_1
 have HC0_1:=Aside0.mk hc0_1
 clear hr0_1 hc0_1
 have HR0_2:=Aside0.mk hr0_2
 have HC0_2:=Aside0.mk hc0_2
 clear hr0_2 hc0_2
 have HR0_3:=Aside0.mk hr0_3
 have HC0_3:=Aside0.mk hc0_3
 clear hr0_3 hc0_3
 have HR0_4:=Aside0.mk hr0_4
 have HC0_4:=Aside0.mk hc0_4
 clear hr0_4 hc0_4
 have HB:=Aside0.mk (Below.refl w.heap.size w)
 have H:(if a1=0 then (some (a2 == 0)) else (if a1=1 then (if a2=0 then (some true) else (some (a2 == 1))) else (if a1=2 then (if a2≥0 then (some (decide (a2<(l0_0.length:Int)))) else (some false)) else (if a1=3 then (if a2≥0 then (some (decide (a2<(l0_2.length:Int)))) else (some false)) else (if a1=4 then (if a2≥0 then (some (decide (a2<(l0_1.length:Int)))) else (some false)) else (if a1=5 then (if a2≥0 then (some (decide (a2<(l0_3.length:Int)))) else (some false)) else (if a1=6 then (if a2≥0 then (some (decide (a2<a0_6))) else (some false)) else (if a1=8 then (if a2≥1 then (some (decide (a2≤6))) else (some false)) else (some true)))))))))=some r:=h
 clear h
 by_cases c4:a1=0
 ·
  rw [if_pos c4] at H
  have c4b0:(a1 == 0)=true:=beq_iff_eq.mpr c4
  have c4b1:(a1 != 0)=false:=bne_eq_false_iff_eq.mpr c4
  clear c4
  obtain rfl:=Option.some.inj H
  go_enter Try.func97,Try.ntmps97
  go_wp2_with (first|((with_reducible refine aZr (N:=3) rfl ?_);(try (refine aZG (by rfl) ?_;dsimp only));refine aZy ?hg (N:=3) ?hd (cs:=#[.slice A0_0 l0_0.length c0_0,.slice A0_1 l0_1.length c0_1,.slice A0_2 l0_2.length c0_2,.slice A0_3 l0_3.length c0_3,.slice A0_4 l0_4.length c0_4,.int .i64 a0_5,.int .i64 a0_6]) (t:=28) ?hr ?_;(case hd=>rfl);(case hg=>rfl);(case hr=>first|(go_simp;done)|(go_simp;rfl));intro gb165 hg w5 hbox hb;have n0_:=Aside0.mk (aZo (by repeat (first|(with_reducible first|exact HB.out|apply aZb|apply aZa|apply aZc)|exact HB.out)) hb);have n1_:=Aside0.mk (hbox);have n2_:=Aside0.mk ((by rw [hg];exact (aZl (by repeat (first|(with_reducible first|exact HB.out|apply aZb|apply aZa|apply aZc)|exact HB.out))):w.heap.size≤gb165));have n3_:=Aside0.mk ((by rw [hg];exact (aZl (by repeat (first|(with_reducible first|exact HB.out|apply aZb|apply aZa|apply aZc)|exact HB.out))):w.heap.size≤gb165));clear HB;have HB:=n0_;have BK165:=n1_;have GW165:=n2_;have GE165:=n3_;clear n0_ n1_ n2_ n3_;clear hb hbox hg))
  go_ret
  exact ⟨by first|rfl|(simp [errW_none,errW_some] <;> rfl)|(simp [*,errW_none,errW_some] <;> rfl),by repeat (first|(with_reducible first|exact HB.out|apply aZb|apply aZa|apply aZc|refine aZf ?_ GE165.out)|exact HB.out)⟩
 ·
  rw [if_neg c4] at H
  have c4b0:(a1 == 0)=false:=beq_eq_false_iff_ne.mpr c4
  have c4b1:(a1 != 0)=true:=bne_iff_ne.mpr c4
  by_cases c6:a1=1
  ·
   rw [if_pos c6] at H
   have c6b0:(a1 == 1)=true:=beq_iff_eq.mpr c6
   have c6b1:(a1 != 1)=false:=bne_eq_false_iff_eq.mpr c6
   clear c6
   by_cases c7:a2=0
   ·
    rw [if_pos c7] at H
    have c7b0:(a2 == 0)=true:=beq_iff_eq.mpr c7
    have c7b1:(a2 != 0)=false:=bne_eq_false_iff_eq.mpr c7
    clear c7
    obtain rfl:=Option.some.inj H
    go_enter Try.func97,Try.ntmps97
    go_wp2_with (first|((with_reducible refine aZr (N:=3) rfl ?_);(try (refine aZG (by rfl) ?_;dsimp only));refine aZy ?hg (N:=3) ?hd (cs:=#[.slice A0_0 l0_0.length c0_0,.slice A0_1 l0_1.length c0_1,.slice A0_2 l0_2.length c0_2,.slice A0_3 l0_3.length c0_3,.slice A0_4 l0_4.length c0_4,.int .i64 a0_5,.int .i64 a0_6]) (t:=28) ?hr ?_;(case hd=>rfl);(case hg=>rfl);(case hr=>first|(go_simp;done)|(go_simp;rfl));intro gb165 hg w8 hbox hb;have n0_:=Aside0.mk (aZo (by repeat (first|(with_reducible first|exact HB.out|apply aZb|apply aZa|apply aZc)|exact HB.out)) hb);have n1_:=Aside0.mk (hbox);have n2_:=Aside0.mk ((by rw [hg];exact (aZl (by repeat (first|(with_reducible first|exact HB.out|apply aZb|apply aZa|apply aZc)|exact HB.out))):w.heap.size≤gb165));have n3_:=Aside0.mk ((by rw [hg];exact (aZl (by repeat (first|(with_reducible first|exact HB.out|apply aZb|apply aZa|apply aZc)|exact HB.out))):w.heap.size≤gb165));clear HB;have HB:=n0_;have BK165:=n1_;have GW165:=n2_;have GE165:=n3_;clear n0_ n1_ n2_ n3_;clear hb hbox hg))
    go_ret
    exact ⟨by first|rfl|(simp [errW_none,errW_some] <;> rfl)|(simp [*,errW_none,errW_some] <;> rfl),by repeat (first|(with_reducible first|exact HB.out|apply aZb|apply aZa|apply aZc|refine aZf ?_ GE165.out)|exact HB.out)⟩
   ·
    rw [if_neg c7] at H
    have c7b0:(a2 == 0)=false:=beq_eq_false_iff_ne.mpr c7
    have c7b1:(a2 != 0)=true:=bne_iff_ne.mpr c7
    obtain rfl:=Option.some.inj H
    go_enter Try.func97,Try.ntmps97
    go_wp2_with (first|((with_reducible refine aZr (N:=3) rfl ?_);(try (refine aZG (by rfl) ?_;dsimp only));refine aZy ?hg (N:=3) ?hd (cs:=#[.slice A0_0 l0_0.length c0_0,.slice A0_1 l0_1.length c0_1,.slice A0_2 l0_2.length c0_2,.slice A0_3 l0_3.length c0_3,.slice A0_4 l0_4.length c0_4,.int .i64 a0_5,.int .i64 a0_6]) (t:=28) ?hr ?_;(case hd=>rfl);(case hg=>rfl);(case hr=>first|(go_simp;done)|(go_simp;rfl));intro gb165 hg w9 hbox hb;have n0_:=Aside0.mk (aZo (by repeat (first|(with_reducible first|exact HB.out|apply aZb|apply aZa|apply aZc)|exact HB.out)) hb);have n1_:=Aside0.mk (hbox);have n2_:=Aside0.mk ((by rw [hg];exact (aZl (by repeat (first|(with_reducible first|exact HB.out|apply aZb|apply aZa|apply aZc)|exact HB.out))):w.heap.size≤gb165));have n3_:=Aside0.mk ((by rw [hg];exact (aZl (by repeat (first|(with_reducible first|exact HB.out|apply aZb|apply aZa|apply aZc)|exact HB.out))):w.heap.size≤gb165));clear HB;have HB:=n0_;have BK165:=n1_;have GW165:=n2_;have GE165:=n3_;clear n0_ n1_ n2_ n3_;clear hb hbox hg))
    go_ret
    exact ⟨by first|rfl|(simp [errW_none,errW_some] <;> rfl)|(simp [*,errW_none,errW_some] <;> rfl),by repeat (first|(with_reducible first|exact HB.out|apply aZb|apply aZa|apply aZc|refine aZf ?_ GE165.out)|exact HB.out)⟩
  ·
   rw [if_neg c6] at H
   have c6b0:(a1 == 1)=false:=beq_eq_false_iff_ne.mpr c6
   have c6b1:(a1 != 1)=true:=bne_iff_ne.mpr c6
   by_cases c10:a1=2
   ·
    rw [if_pos c10] at H
    have c10b0:(a1 == 2)=true:=beq_iff_eq.mpr c10
    have c10b1:(a1 != 2)=false:=bne_eq_false_iff_eq.mpr c10
    clear c10
    by_cases c11:a2≥0
    ·
     rw [if_pos c11] at H
     have c11b0:decide (0≤a2)=true:=decide_eq_true c11
     clear c11
     obtain rfl:=Option.some.inj H
     go_enter Try.func97,Try.ntmps97
     go_wp2_with (first|((with_reducible refine aZr (N:=3) rfl ?_);(try (refine aZG (by rfl) ?_;dsimp only));refine aZy ?hg (N:=3) ?hd (cs:=#[.slice A0_0 l0_0.length c0_0,.slice A0_1 l0_1.length c0_1,.slice A0_2 l0_2.length c0_2,.slice A0_3 l0_3.length c0_3,.slice A0_4 l0_4.length c0_4,.int .i64 a0_5,.int .i64 a0_6]) (t:=28) ?hr ?_;(case hd=>rfl);(case hg=>rfl);(case hr=>first|(go_simp;done)|(go_simp;rfl));intro gb165 hg w12 hbox hb;have n0_:=Aside0.mk (aZo (by repeat (first|(with_reducible first|exact HB.out|apply aZb|apply aZa|apply aZc)|exact HB.out)) hb);have n1_:=Aside0.mk (hbox);have n2_:=Aside0.mk ((by rw [hg];exact (aZl (by repeat (first|(with_reducible first|exact HB.out|apply aZb|apply aZa|apply aZc)|exact HB.out))):w.heap.size≤gb165));have n3_:=Aside0.mk ((by rw [hg];exact (aZl (by repeat (first|(with_reducible first|exact HB.out|apply aZb|apply aZa|apply aZc)|exact HB.out))):w.heap.size≤gb165));clear HB;have HB:=n0_;have BK165:=n1_;have GW165:=n2_;have GE165:=n3_;clear n0_ n1_ n2_ n3_;clear hb hbox hg;have hcz13_0:w12.cell? ⟨gb165,0,none⟩=some (.slice A0_0 l0_0.length c0_0):=(aZd BK165.out 0).trans rfl;have hcz13_1:w12.cell? ⟨gb165,1,none⟩=some (.slice A0_1 l0_1.length c0_1):=(aZd BK165.out 1).trans rfl;have hcz13_2:w12.cell? ⟨gb165,2,none⟩=some (.slice A0_2 l0_2.length c0_2):=(aZd BK165.out 2).trans rfl;have hcz13_3:w12.cell? ⟨gb165,3,none⟩=some (.slice A0_3 l0_3.length c0_3):=(aZd BK165.out 3).trans rfl;have hcz13_4:w12.cell? ⟨gb165,4,none⟩=some (.slice A0_4 l0_4.length c0_4):=(aZd BK165.out 4).trans rfl;have hcz13_5:w12.cell? ⟨gb165,5,none⟩=some (.int .i64 a0_5):=(aZd BK165.out 5).trans rfl;have hcz13_6:w12.cell? ⟨gb165,6,none⟩=some (.int .i64 a0_6):=(aZd BK165.out 6).trans rfl;have hfz13_0:=aZe BK165.out 0;have hfz13_1:=aZe BK165.out 1;have hfz13_2:=aZe BK165.out 2;have hfz13_3:=aZe BK165.out 3;have hfz13_4:=aZe BK165.out 4;have hfz13_5:=aZe BK165.out 5;have hfz13_6:=aZe BK165.out 6))
     go_ret
     exact ⟨by first|rfl|(simp [errW_none,errW_some] <;> rfl)|(simp [*,errW_none,errW_some] <;> rfl),by repeat (first|(with_reducible first|exact HB.out|apply aZb|apply aZa|apply aZc|refine aZf ?_ GE165.out)|exact HB.out)⟩
    ·
     rw [if_neg c11] at H
     have c11b0:decide (0≤a2)=false:=decide_eq_false c11
     clear c11
     obtain rfl:=Option.some.inj H
     go_enter Try.func97,Try.ntmps97
     go_wp2_with (first|((with_reducible refine aZr (N:=3) rfl ?_);(try (refine aZG (by rfl) ?_;dsimp only));refine aZy ?hg (N:=3) ?hd (cs:=#[.slice A0_0 l0_0.length c0_0,.slice A0_1 l0_1.length c0_1,.slice A0_2 l0_2.length c0_2,.slice A0_3 l0_3.length c0_3,.slice A0_4 l0_4.length c0_4,.int .i64 a0_5,.int .i64 a0_6]) (t:=28) ?hr ?_;(case hd=>rfl);(case hg=>rfl);(case hr=>first|(go_simp;done)|(go_simp;rfl));intro gb165 hg w14 hbox hb;have n0_:=Aside0.mk (aZo (by repeat (first|(with_reducible first|exact HB.out|apply aZb|apply aZa|apply aZc)|exact HB.out)) hb);have n1_:=Aside0.mk (hbox);have n2_:=Aside0.mk ((by rw [hg];exact (aZl (by repeat (first|(with_reducible first|exact HB.out|apply aZb|apply aZa|apply aZc)|exact HB.out))):w.heap.size≤gb165));have n3_:=Aside0.mk ((by rw [hg];exact (aZl (by repeat (first|(with_reducible first|exact HB.out|apply aZb|apply aZa|apply aZc)|exact HB.out))):w.heap.size≤gb165));clear HB;have HB:=n0_;have BK165:=n1_;have GW165:=n2_;have GE165:=n3_;clear n0_ n1_ n2_ n3_;clear hb hbox hg))
     go_ret
     exact ⟨by first|rfl|(simp [errW_none,errW_some] <;> rfl)|(simp [*,errW_none,errW_some] <;> rfl),by repeat (first|(with_reducible first|exact HB.out|apply aZb|apply aZa|apply aZc|refine aZf ?_ GE165.out)|exact HB.out)⟩
   ·
    rw [if_neg c10] at H
    have c10b0:(a1 == 2)=false:=beq_eq_false_iff_ne.mpr c10
    have c10b1:(a1 != 2)=true:=bne_iff_ne.mpr c10
    by_cases c15:a1=3
    ·
     rw [if_pos c15] at H
     have c15b0:(a1 == 3)=true:=beq_iff_eq.mpr c15
     have c15b1:(a1 != 3)=false:=bne_eq_false_iff_eq.mpr c15
     clear c15
     by_cases c16:a2≥0
     ·
      rw [if_pos c16] at H
      have c16b0:decide (0≤a2)=true:=decide_eq_true c16
      clear c16
      obtain rfl:=Option.some.inj H
      go_enter Try.func97,Try.ntmps97
      go_wp2_with (first|((with_reducible refine aZr (N:=3) rfl ?_);(try (refine aZG (by rfl) ?_;dsimp only));refine aZy ?hg (N:=3) ?hd (cs:=#[.slice A0_0 l0_0.length c0_0,.slice A0_1 l0_1.length c0_1,.slice A0_2 l0_2.length c0_2,.slice A0_3 l0_3.length c0_3,.slice A0_4 l0_4.length c0_4,.int .i64 a0_5,.int .i64 a0_6]) (t:=28) ?hr ?_;(case hd=>rfl);(case hg=>rfl);(case hr=>first|(go_simp;done)|(go_simp;rfl));intro gb165 hg w17 hbox hb;have n0_:=Aside0.mk (aZo (by repeat (first|(with_reducible first|exact HB.out|apply aZb|apply aZa|apply aZc)|exact HB.out)) hb);have n1_:=Aside0.mk (hbox);have n2_:=Aside0.mk ((by rw [hg];exact (aZl (by repeat (first|(with_reducible first|exact HB.out|apply aZb|apply aZa|apply aZc)|exact HB.out))):w.heap.size≤gb165));have n3_:=Aside0.mk ((by rw [hg];exact (aZl (by repeat (first|(with_reducible first|exact HB.out|apply aZb|apply aZa|apply aZc)|exact HB.out))):w.heap.size≤gb165));clear HB;have HB:=n0_;have BK165:=n1_;have GW165:=n2_;have GE165:=n3_;clear n0_ n1_ n2_ n3_;clear hb hbox hg;have hcz18_0:w17.cell? ⟨gb165,0,none⟩=some (.slice A0_0 l0_0.length c0_0):=(aZd BK165.out 0).trans rfl;have hcz18_1:w17.cell? ⟨gb165,1,none⟩=some (.slice A0_1 l0_1.length c0_1):=(aZd BK165.out 1).trans rfl;have hcz18_2:w17.cell? ⟨gb165,2,none⟩=some (.slice A0_2 l0_2.length c0_2):=(aZd BK165.out 2).trans rfl;have hcz18_3:w17.cell? ⟨gb165,3,none⟩=some (.slice A0_3 l0_3.length c0_3):=(aZd BK165.out 3).trans rfl;have hcz18_4:w17.cell? ⟨gb165,4,none⟩=some (.slice A0_4 l0_4.length c0_4):=(aZd BK165.out 4).trans rfl;have hcz18_5:w17.cell? ⟨gb165,5,none⟩=some (.int .i64 a0_5):=(aZd BK165.out 5).trans rfl;have hcz18_6:w17.cell? ⟨gb165,6,none⟩=some (.int .i64 a0_6):=(aZd BK165.out 6).trans rfl;have hfz18_0:=aZe BK165.out 0;have hfz18_1:=aZe BK165.out 1;have hfz18_2:=aZe BK165.out 2;have hfz18_3:=aZe BK165.out 3;have hfz18_4:=aZe BK165.out 4;have hfz18_5:=aZe BK165.out 5;have hfz18_6:=aZe BK165.out 6))
      go_ret
      exact ⟨by first|rfl|(simp [errW_none,errW_some] <;> rfl)|(simp [*,errW_none,errW_some] <;> rfl),by repeat (first|(with_reducible first|exact HB.out|apply aZb|apply aZa|apply aZc|refine aZf ?_ GE165.out)|exact HB.out)⟩
     ·
      rw [if_neg c16] at H
      have c16b0:decide (0≤a2)=false:=decide_eq_false c16
      clear c16
      obtain rfl:=Option.some.inj H
      go_enter Try.func97,Try.ntmps97
      go_wp2_with (first|((with_reducible refine aZr (N:=3) rfl ?_);(try (refine aZG (by rfl) ?_;dsimp only));refine aZy ?hg (N:=3) ?hd (cs:=#[.slice A0_0 l0_0.length c0_0,.slice A0_1 l0_1.length c0_1,.slice A0_2 l0_2.length c0_2,.slice A0_3 l0_3.length c0_3,.slice A0_4 l0_4.length c0_4,.int .i64 a0_5,.int .i64 a0_6]) (t:=28) ?hr ?_;(case hd=>rfl);(case hg=>rfl);(case hr=>first|(go_simp;done)|(go_simp;rfl));intro gb165 hg w19 hbox hb;have n0_:=Aside0.mk (aZo (by repeat (first|(with_reducible first|exact HB.out|apply aZb|apply aZa|apply aZc)|exact HB.out)) hb);have n1_:=Aside0.mk (hbox);have n2_:=Aside0.mk ((by rw [hg];exact (aZl (by repeat (first|(with_reducible first|exact HB.out|apply aZb|apply aZa|apply aZc)|exact HB.out))):w.heap.size≤gb165));have n3_:=Aside0.mk ((by rw [hg];exact (aZl (by repeat (first|(with_reducible first|exact HB.out|apply aZb|apply aZa|apply aZc)|exact HB.out))):w.heap.size≤gb165));clear HB;have HB:=n0_;have BK165:=n1_;have GW165:=n2_;have GE165:=n3_;clear n0_ n1_ n2_ n3_;clear hb hbox hg))
      go_ret
      exact ⟨by first|rfl|(simp [errW_none,errW_some] <;> rfl)|(simp [*,errW_none,errW_some] <;> rfl),by repeat (first|(with_reducible first|exact HB.out|apply aZb|apply aZa|apply aZc|refine aZf ?_ GE165.out)|exact HB.out)⟩
    ·
     rw [if_neg c15] at H
     have c15b0:(a1 == 3)=false:=beq_eq_false_iff_ne.mpr c15
     have c15b1:(a1 != 3)=true:=bne_iff_ne.mpr c15
     by_cases c20:a1=4
     ·
      rw [if_pos c20] at H
      have c20b0:(a1 == 4)=true:=beq_iff_eq.mpr c20
      have c20b1:(a1 != 4)=false:=bne_eq_false_iff_eq.mpr c20
      clear c20
      by_cases c21:a2≥0
      ·
       rw [if_pos c21] at H
       have c21b0:decide (0≤a2)=true:=decide_eq_true c21
       clear c21
       obtain rfl:=Option.some.inj H
       go_enter Try.func97,Try.ntmps97
       go_wp2_with (first|((with_reducible refine aZr (N:=3) rfl ?_);(try (refine aZG (by rfl) ?_;dsimp only));refine aZy ?hg (N:=3) ?hd (cs:=#[.slice A0_0 l0_0.length c0_0,.slice A0_1 l0_1.length c0_1,.slice A0_2 l0_2.length c0_2,.slice A0_3 l0_3.length c0_3,.slice A0_4 l0_4.length c0_4,.int .i64 a0_5,.int .i64 a0_6]) (t:=28) ?hr ?_;(case hd=>rfl);(case hg=>rfl);(case hr=>first|(go_simp;done)|(go_simp;rfl));intro gb165 hg w22 hbox hb;have n0_:=Aside0.mk (aZo (by repeat (first|(with_reducible first|exact HB.out|apply aZb|apply aZa|apply aZc)|exact HB.out)) hb);have n1_:=Aside0.mk (hbox);have n2_:=Aside0.mk ((by rw [hg];exact (aZl (by repeat (first|(with_reducible first|exact HB.out|apply aZb|apply aZa|apply aZc)|exact HB.out))):w.heap.size≤gb165));have n3_:=Aside0.mk ((by rw [hg];exact (aZl (by repeat (first|(with_reducible first|exact HB.out|apply aZb|apply aZa|apply aZc)|exact HB.out))):w.heap.size≤gb165));clear HB;have HB:=n0_;have BK165:=n1_;have GW165:=n2_;have GE165:=n3_;clear n0_ n1_ n2_ n3_;clear hb hbox hg;have hcz23_0:w22.cell? ⟨gb165,0,none⟩=some (.slice A0_0 l0_0.length c0_0):=(aZd BK165.out 0).trans rfl;have hcz23_1:w22.cell? ⟨gb165,1,none⟩=some (.slice A0_1 l0_1.length c0_1):=(aZd BK165.out 1).trans rfl;have hcz23_2:w22.cell? ⟨gb165,2,none⟩=some (.slice A0_2 l0_2.length c0_2):=(aZd BK165.out 2).trans rfl;have hcz23_3:w22.cell? ⟨gb165,3,none⟩=some (.slice A0_3 l0_3.length c0_3):=(aZd BK165.out 3).trans rfl;have hcz23_4:w22.cell? ⟨gb165,4,none⟩=some (.slice A0_4 l0_4.length c0_4):=(aZd BK165.out 4).trans rfl;have hcz23_5:w22.cell? ⟨gb165,5,none⟩=some (.int .i64 a0_5):=(aZd BK165.out 5).trans rfl;have hcz23_6:w22.cell? ⟨gb165,6,none⟩=some (.int .i64 a0_6):=(aZd BK165.out 6).trans rfl;have hfz23_0:=aZe BK165.out 0;have hfz23_1:=aZe BK165.out 1;have hfz23_2:=aZe BK165.out 2;have hfz23_3:=aZe BK165.out 3;have hfz23_4:=aZe BK165.out 4;have hfz23_5:=aZe BK165.out 5;have hfz23_6:=aZe BK165.out 6))
       go_ret
       exact ⟨by first|rfl|(simp [errW_none,errW_some] <;> rfl)|(simp [*,errW_none,errW_some] <;> rfl),by repeat (first|(with_reducible first|exact HB.out|apply aZb|apply aZa|apply aZc|refine aZf ?_ GE165.out)|exact HB.out)⟩
      ·
       rw [if_neg c21] at H
       have c21b0:decide (0≤a2)=false:=decide_eq_false c21
       clear c21
       obtain rfl:=Option.some.inj H
       go_enter Try.func97,Try.ntmps97
       go_wp2_with (first|((with_reducible refine aZr (N:=3) rfl ?_);(try (refine aZG (by rfl) ?_;dsimp only));refine aZy ?hg (N:=3) ?hd (cs:=#[.slice A0_0 l0_0.length c0_0,.slice A0_1 l0_1.length c0_1,.slice A0_2 l0_2.length c0_2,.slice A0_3 l0_3.length c0_3,.slice A0_4 l0_4.length c0_4,.int .i64 a0_5,.int .i64 a0_6]) (t:=28) ?hr ?_;(case hd=>rfl);(case hg=>rfl);(case hr=>first|(go_simp;done)|(go_simp;rfl));intro gb165 hg w24 hbox hb;have n0_:=Aside0.mk (aZo (by repeat (first|(with_reducible first|exact HB.out|apply aZb|apply aZa|apply aZc)|exact HB.out)) hb);have n1_:=Aside0.mk (hbox);have n2_:=Aside0.mk ((by rw [hg];exact (aZl (by repeat (first|(with_reducible first|exact HB.out|apply aZb|apply aZa|apply aZc)|exact HB.out))):w.heap.size≤gb165));have n3_:=Aside0.mk ((by rw [hg];exact (aZl (by repeat (first|(with_reducible first|exact HB.out|apply aZb|apply aZa|apply aZc)|exact HB.out))):w.heap.size≤gb165));clear HB;have HB:=n0_;have BK165:=n1_;have GW165:=n2_;have GE165:=n3_;clear n0_ n1_ n2_ n3_;clear hb hbox hg))
       go_ret
       exact ⟨by first|rfl|(simp [errW_none,errW_some] <;> rfl)|(simp [*,errW_none,errW_some] <;> rfl),by repeat (first|(with_reducible first|exact HB.out|apply aZb|apply aZa|apply aZc|refine aZf ?_ GE165.out)|exact HB.out)⟩
     ·
      rw [if_neg c20] at H
      have c20b0:(a1 == 4)=false:=beq_eq_false_iff_ne.mpr c20
      have c20b1:(a1 != 4)=true:=bne_iff_ne.mpr c20
      by_cases c25:a1=5
      ·
       rw [if_pos c25] at H
       have c25b0:(a1 == 5)=true:=beq_iff_eq.mpr c25
       have c25b1:(a1 != 5)=false:=bne_eq_false_iff_eq.mpr c25
       clear c25
       by_cases c26:a2≥0
       ·
        rw [if_pos c26] at H
        have c26b0:decide (0≤a2)=true:=decide_eq_true c26
        clear c26
        obtain rfl:=Option.some.inj H
        go_enter Try.func97,Try.ntmps97
        go_wp2_with (first|((with_reducible refine aZr (N:=3) rfl ?_);(try (refine aZG (by rfl) ?_;dsimp only));refine aZy ?hg (N:=3) ?hd (cs:=#[.slice A0_0 l0_0.length c0_0,.slice A0_1 l0_1.length c0_1,.slice A0_2 l0_2.length c0_2,.slice A0_3 l0_3.length c0_3,.slice A0_4 l0_4.length c0_4,.int .i64 a0_5,.int .i64 a0_6]) (t:=28) ?hr ?_;(case hd=>rfl);(case hg=>rfl);(case hr=>first|(go_simp;done)|(go_simp;rfl));intro gb165 hg w27 hbox hb;have n0_:=Aside0.mk (aZo (by repeat (first|(with_reducible first|exact HB.out|apply aZb|apply aZa|apply aZc)|exact HB.out)) hb);have n1_:=Aside0.mk (hbox);have n2_:=Aside0.mk ((by rw [hg];exact (aZl (by repeat (first|(with_reducible first|exact HB.out|apply aZb|apply aZa|apply aZc)|exact HB.out))):w.heap.size≤gb165));have n3_:=Aside0.mk ((by rw [hg];exact (aZl (by repeat (first|(with_reducible first|exact HB.out|apply aZb|apply aZa|apply aZc)|exact HB.out))):w.heap.size≤gb165));clear HB;have HB:=n0_;have BK165:=n1_;have GW165:=n2_;have GE165:=n3_;clear n0_ n1_ n2_ n3_;clear hb hbox hg;have hcz28_0:w27.cell? ⟨gb165,0,none⟩=some (.slice A0_0 l0_0.length c0_0):=(aZd BK165.out 0).trans rfl;have hcz28_1:w27.cell? ⟨gb165,1,none⟩=some (.slice A0_1 l0_1.length c0_1):=(aZd BK165.out 1).trans rfl;have hcz28_2:w27.cell? ⟨gb165,2,none⟩=some (.slice A0_2 l0_2.length c0_2):=(aZd BK165.out 2).trans rfl;have hcz28_3:w27.cell? ⟨gb165,3,none⟩=some (.slice A0_3 l0_3.length c0_3):=(aZd BK165.out 3).trans rfl;have hcz28_4:w27.cell? ⟨gb165,4,none⟩=some (.slice A0_4 l0_4.length c0_4):=(aZd BK165.out 4).trans rfl;have hcz28_5:w27.cell? ⟨gb165,5,none⟩=some (.int .i64 a0_5):=(aZd BK165.out 5).trans rfl;have hcz28_6:w27.cell? ⟨gb165,6,none⟩=some (.int .i64 a0_6):=(aZd BK165.out 6).trans rfl;have hfz28_0:=aZe BK165.out 0;have hfz28_1:=aZe BK165.out 1;have hfz28_2:=aZe BK165.out 2;have hfz28_3:=aZe BK165.out 3;have hfz28_4:=aZe BK165.out 4;have hfz28_5:=aZe BK165.out 5;have hfz28_6:=aZe BK165.out 6))
        go_ret
        exact ⟨by first|rfl|(simp [errW_none,errW_some] <;> rfl)|(simp [*,errW_none,errW_some] <;> rfl),by repeat (first|(with_reducible first|exact HB.out|apply aZb|apply aZa|apply aZc|refine aZf ?_ GE165.out)|exact HB.out)⟩
       ·
        rw [if_neg c26] at H
        have c26b0:decide (0≤a2)=false:=decide_eq_false c26
        clear c26
        obtain rfl:=Option.some.inj H
        go_enter Try.func97,Try.ntmps97
        go_wp2_with (first|((with_reducible refine aZr (N:=3) rfl ?_);(try (refine aZG (by rfl) ?_;dsimp only));refine aZy ?hg (N:=3) ?hd (cs:=#[.slice A0_0 l0_0.length c0_0,.slice A0_1 l0_1.length c0_1,.slice A0_2 l0_2.length c0_2,.slice A0_3 l0_3.length c0_3,.slice A0_4 l0_4.length c0_4,.int .i64 a0_5,.int .i64 a0_6]) (t:=28) ?hr ?_;(case hd=>rfl);(case hg=>rfl);(case hr=>first|(go_simp;done)|(go_simp;rfl));intro gb165 hg w29 hbox hb;have n0_:=Aside0.mk (aZo (by repeat (first|(with_reducible first|exact HB.out|apply aZb|apply aZa|apply aZc)|exact HB.out)) hb);have n1_:=Aside0.mk (hbox);have n2_:=Aside0.mk ((by rw [hg];exact (aZl (by repeat (first|(with_reducible first|exact HB.out|apply aZb|apply aZa|apply aZc)|exact HB.out))):w.heap.size≤gb165));have n3_:=Aside0.mk ((by rw [hg];exact (aZl (by repeat (first|(with_reducible first|exact HB.out|apply aZb|apply aZa|apply aZc)|exact HB.out))):w.heap.size≤gb165));clear HB;have HB:=n0_;have BK165:=n1_;have GW165:=n2_;have GE165:=n3_;clear n0_ n1_ n2_ n3_;clear hb hbox hg))
        go_ret
        exact ⟨by first|rfl|(simp [errW_none,errW_some] <;> rfl)|(simp [*,errW_none,errW_some] <;> rfl),by repeat (first|(with_reducible first|exact HB.out|apply aZb|apply aZa|apply aZc|refine aZf ?_ GE165.out)|exact HB.out)⟩
      ·
       rw [if_neg c25] at H
       have c25b0:(a1 == 5)=false:=beq_eq_false_iff_ne.mpr c25
       have c25b1:(a1 != 5)=true:=bne_iff_ne.mpr c25
       by_cases c30:a1=6
       ·
        rw [if_pos c30] at H
        have c30b0:(a1 == 6)=true:=beq_iff_eq.mpr c30
        have c30b1:(a1 != 6)=false:=bne_eq_false_iff_eq.mpr c30
        clear c30
        by_cases c31:a2≥0
        ·
         rw [if_pos c31] at H
         have c31b0:decide (0≤a2)=true:=decide_eq_true c31
         clear c31
         obtain rfl:=Option.some.inj H
         go_enter Try.func97,Try.ntmps97
         go_wp2_with (first|((with_reducible refine aZr (N:=3) rfl ?_);(try (refine aZG (by rfl) ?_;dsimp only));refine aZy ?hg (N:=3) ?hd (cs:=#[.slice A0_0 l0_0.length c0_0,.slice A0_1 l0_1.length c0_1,.slice A0_2 l0_2.length c0_2,.slice A0_3 l0_3.length c0_3,.slice A0_4 l0_4.length c0_4,.int .i64 a0_5,.int .i64 a0_6]) (t:=28) ?hr ?_;(case hd=>rfl);(case hg=>rfl);(case hr=>first|(go_simp;done)|(go_simp;rfl));intro gb165 hg w32 hbox hb;have n0_:=Aside0.mk (aZo (by repeat (first|(with_reducible first|exact HB.out|apply aZb|apply aZa|apply aZc)|exact HB.out)) hb);have n1_:=Aside0.mk (hbox);have n2_:=Aside0.mk ((by rw [hg];exact (aZl (by repeat (first|(with_reducible first|exact HB.out|apply aZb|apply aZa|apply aZc)|exact HB.out))):w.heap.size≤gb165));have n3_:=Aside0.mk ((by rw [hg];exact (aZl (by repeat (first|(with_reducible first|exact HB.out|apply aZb|apply aZa|apply aZc)|exact HB.out))):w.heap.size≤gb165));clear HB;have HB:=n0_;have BK165:=n1_;have GW165:=n2_;have GE165:=n3_;clear n0_ n1_ n2_ n3_;clear hb hbox hg;have hcz33_0:w32.cell? ⟨gb165,0,none⟩=some (.slice A0_0 l0_0.length c0_0):=(aZd BK165.out 0).trans rfl;have hcz33_1:w32.cell? ⟨gb165,1,none⟩=some (.slice A0_1 l0_1.length c0_1):=(aZd BK165.out 1).trans rfl;have hcz33_2:w32.cell? ⟨gb165,2,none⟩=some (.slice A0_2 l0_2.length c0_2):=(aZd BK165.out 2).trans rfl;have hcz33_3:w32.cell? ⟨gb165,3,none⟩=some (.slice A0_3 l0_3.length c0_3):=(aZd BK165.out 3).trans rfl;have hcz33_4:w32.cell? ⟨gb165,4,none⟩=some (.slice A0_4 l0_4.length c0_4):=(aZd BK165.out 4).trans rfl;have hcz33_5:w32.cell? ⟨gb165,5,none⟩=some (.int .i64 a0_5):=(aZd BK165.out 5).trans rfl;have hcz33_6:w32.cell? ⟨gb165,6,none⟩=some (.int .i64 a0_6):=(aZd BK165.out 6).trans rfl;have hfz33_0:=aZe BK165.out 0;have hfz33_1:=aZe BK165.out 1;have hfz33_2:=aZe BK165.out 2;have hfz33_3:=aZe BK165.out 3;have hfz33_4:=aZe BK165.out 4;have hfz33_5:=aZe BK165.out 5;have hfz33_6:=aZe BK165.out 6))
         go_ret
         exact ⟨by first|rfl|(simp [errW_none,errW_some] <;> rfl)|(simp [*,errW_none,errW_some] <;> rfl),by repeat (first|(with_reducible first|exact HB.out|apply aZb|apply aZa|apply aZc|refine aZf ?_ GE165.out)|exact HB.out)⟩
        ·
         rw [if_neg c31] at H
         have c31b0:decide (0≤a2)=false:=decide_eq_false c31
         clear c31
         obtain rfl:=Option.some.inj H
         go_enter Try.func97,Try.ntmps97
         go_wp2_with (first|((with_reducible refine aZr (N:=3) rfl ?_);(try (refine aZG (by rfl) ?_;dsimp only));refine aZy ?hg (N:=3) ?hd (cs:=#[.slice A0_0 l0_0.length c0_0,.slice A0_1 l0_1.length c0_1,.slice A0_2 l0_2.length c0_2,.slice A0_3 l0_3.length c0_3,.slice A0_4 l0_4.length c0_4,.int .i64 a0_5,.int .i64 a0_6]) (t:=28) ?hr ?_;(case hd=>rfl);(case hg=>rfl);(case hr=>first|(go_simp;done)|(go_simp;rfl));intro gb165 hg w34 hbox hb;have n0_:=Aside0.mk (aZo (by repeat (first|(with_reducible first|exact HB.out|apply aZb|apply aZa|apply aZc)|exact HB.out)) hb);have n1_:=Aside0.mk (hbox);have n2_:=Aside0.mk ((by rw [hg];exact (aZl (by repeat (first|(with_reducible first|exact HB.out|apply aZb|apply aZa|apply aZc)|exact HB.out))):w.heap.size≤gb165));have n3_:=Aside0.mk ((by rw [hg];exact (aZl (by repeat (first|(with_reducible first|exact HB.out|apply aZb|apply aZa|apply aZc)|exact HB.out))):w.heap.size≤gb165));clear HB;have HB:=n0_;have BK165:=n1_;have GW165:=n2_;have GE165:=n3_;clear n0_ n1_ n2_ n3_;clear hb hbox hg))
         go_ret
         exact ⟨by first|rfl|(simp [errW_none,errW_some] <;> rfl)|(simp [*,errW_none,errW_some] <;> rfl),by repeat (first|(with_reducible first|exact HB.out|apply aZb|apply aZa|apply aZc|refine aZf ?_ GE165.out)|exact HB.out)⟩
       ·
        rw [if_neg c30] at H
        have c30b0:(a1 == 6)=false:=beq_eq_false_iff_ne.mpr c30
        have c30b1:(a1 != 6)=true:=bne_iff_ne.mpr c30
        by_cases c35:a1=8
        ·
         rw [if_pos c35] at H
         have c35b0:(a1 == 8)=true:=beq_iff_eq.mpr c35
         have c35b1:(a1 != 8)=false:=bne_eq_false_iff_eq.mpr c35
         clear c35
         by_cases c36:a2≥1
         ·
          rw [if_pos c36] at H
          have c36b0:decide (1≤a2)=true:=decide_eq_true c36
          clear c36
          obtain rfl:=Option.some.inj H
          go_enter Try.func97,Try.ntmps97
          go_wp2_with (first|((with_reducible refine aZr (N:=3) rfl ?_);(try (refine aZG (by rfl) ?_;dsimp only));refine aZy ?hg (N:=3) ?hd (cs:=#[.slice A0_0 l0_0.length c0_0,.slice A0_1 l0_1.length c0_1,.slice A0_2 l0_2.length c0_2,.slice A0_3 l0_3.length c0_3,.slice A0_4 l0_4.length c0_4,.int .i64 a0_5,.int .i64 a0_6]) (t:=28) ?hr ?_;(case hd=>rfl);(case hg=>rfl);(case hr=>first|(go_simp;done)|(go_simp;rfl));intro gb165 hg w37 hbox hb;have n0_:=Aside0.mk (aZo (by repeat (first|(with_reducible first|exact HB.out|apply aZb|apply aZa|apply aZc)|exact HB.out)) hb);have n1_:=Aside0.mk (hbox);have n2_:=Aside0.mk ((by rw [hg];exact (aZl (by repeat (first|(with_reducible first|exact HB.out|apply aZb|apply aZa|apply aZc)|exact HB.out))):w.heap.size≤gb165));have n3_:=Aside0.mk ((by rw [hg];exact (aZl (by repeat (first|(with_reducible first|exact HB.out|apply aZb|apply aZa|apply aZc)|exact HB.out))):w.heap.size≤gb165));clear HB;have HB:=n0_;have BK165:=n1_;have GW165:=n2_;have GE165:=n3_;clear n0_ n1_ n2_ n3_;clear hb hbox hg))
          go_ret
          exact ⟨by first|rfl|(simp [errW_none,errW_some] <;> rfl)|(simp [*,errW_none,errW_some] <;> rfl),by repeat (first|(with_reducible first|exact HB.out|apply aZb|apply aZa|apply aZc|refine aZf ?_ GE165.out)|exact HB.out)⟩
         ·
          rw [if_neg c36] at H
          have c36b0:decide (1≤a2)=false:=decide_eq_false c36
          clear c36
          obtain rfl:=Option.some.inj H
          go_enter Try.func97,Try.ntmps97
          go_wp2_with (first|((with_reducible refine aZr (N:=3) rfl ?_);(try (refine aZG (by rfl) ?_;dsimp only));refine aZy ?hg (N:=3) ?hd (cs:=#[.slice A0_0 l0_0.length c0_0,.slice A0_1 l0_1.length c0_1,.slice A0_2 l0_2.length c0_2,.slice A0_3 l0_3.length c0_3,.slice A0_4 l0_4.length c0_4,.int .i64 a0_5,.int .i64 a0_6]) (t:=28) ?hr ?_;(case hd=>rfl);(case hg=>rfl);(case hr=>first|(go_simp;done)|(go_simp;rfl));intro gb165 hg w38 hbox hb;have n0_:=Aside0.mk (aZo (by repeat (first|(with_reducible first|exact HB.out|apply aZb|apply aZa|apply aZc)|exact HB.out)) hb);have n1_:=Aside0.mk (hbox);have n2_:=Aside0.mk ((by rw [hg];exact (aZl (by repeat (first|(with_reducible first|exact HB.out|apply aZb|apply aZa|apply aZc)|exact HB.out))):w.heap.size≤gb165));have n3_:=Aside0.mk ((by rw [hg];exact (aZl (by repeat (first|(with_reducible first|exact HB.out|apply aZb|apply aZa|apply aZc)|exact HB.out))):w.heap.size≤gb165));clear HB;have HB:=n0_;have BK165:=n1_;have GW165:=n2_;have GE165:=n3_;clear n0_ n1_ n2_ n3_;clear hb hbox hg))
          go_ret
          exact ⟨by first|rfl|(simp [errW_none,errW_some] <;> rfl)|(simp [*,errW_none,errW_some] <;> rfl),by repeat (first|(with_reducible first|exact HB.out|apply aZb|apply aZa|apply aZc|refine aZf ?_ GE165.out)|exact HB.out)⟩
        ·
         rw [if_neg c35] at H
         have c35b0:(a1 == 8)=false:=beq_eq_false_iff_ne.mpr c35
         have c35b1:(a1 != 8)=true:=bne_iff_ne.mpr c35
         obtain rfl:=Option.some.inj H
         go_enter Try.func97,Try.ntmps97
         go_wp2_with (first|((with_reducible refine aZr (N:=3) rfl ?_);(try (refine aZG (by rfl) ?_;dsimp only));refine aZy ?hg (N:=3) ?hd (cs:=#[.slice A0_0 l0_0.length c0_0,.slice A0_1 l0_1.length c0_1,.slice A0_2 l0_2.length c0_2,.slice A0_3 l0_3.length c0_3,.slice A0_4 l0_4.length c0_4,.int .i64 a0_5,.int .i64 a0_6]) (t:=28) ?hr ?_;(case hd=>rfl);(case hg=>rfl);(case hr=>first|(go_simp;done)|(go_simp;rfl));intro gb165 hg w39 hbox hb;have n0_:=Aside0.mk (aZo (by repeat (first|(with_reducible first|exact HB.out|apply aZb|apply aZa|apply aZc)|exact HB.out)) hb);have n1_:=Aside0.mk (hbox);have n2_:=Aside0.mk ((by rw [hg];exact (aZl (by repeat (first|(with_reducible first|exact HB.out|apply aZb|apply aZa|apply aZc)|exact HB.out))):w.heap.size≤gb165));have n3_:=Aside0.mk ((by rw [hg];exact (aZl (by repeat (first|(with_reducible first|exact HB.out|apply aZb|apply aZa|apply aZc)|exact HB.out))):w.heap.size≤gb165));clear HB;have HB:=n0_;have BK165:=n1_;have GW165:=n2_;have GE165:=n3_;clear n0_ n1_ n2_ n3_;clear hb hbox hg))
         go_ret
         exact ⟨by first|rfl|(simp [errW_none,errW_some] <;> rfl)|(simp [*,errW_none,errW_some] <;> rfl),by repeat (first|(with_reducible first|exact HB.out|apply aZb|apply aZa|apply aZc|refine aZf ?_ GE165.out)|exact HB.out)⟩
end Go.Proofs.Ytbnplhmmbnmagaa.All
