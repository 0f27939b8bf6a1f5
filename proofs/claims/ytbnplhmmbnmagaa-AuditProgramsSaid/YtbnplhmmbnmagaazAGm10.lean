/- A part of the proof of AuditPrograms: walks written by a program of this session. -/
import Derived.Test.YtbnplhmmbnmagaazAGm2
import Derived.Test.YtbnplhmmbnmagaazAGm8
import Derived.Test.YtbnplhmmbnmagaazAGm9
set_option maxHeartbeats 4000000
set_option maxRecDepth 100000
set_option linter.unusedVariables false
set_option linter.unusedSimpArgs false
namespace Go.Proofs.Ytbnplhmmbnmagaa.All
open Go.RowKit Go.Proofs.YtbnplhmmbnmagaaW.PrintWords Go.Proofs.YtbnplhmmbnmagaaW.PrintLast Go.Proofs.YtbnplhmmbnmagaaW.PrintMore
attribute [local go_sem] bZO bZM cZa bZ9 bZj bZi bZN bZL
attribute [local go_sem] Go.Proofs.YtbnplhmmbnmagaaX.binOp_leq Go.Proofs.YtbnplhmmbnmagaaX.binOp_geq Go.Proofs.YtbnplhmmbnmagaaX.binOp_gtr
mutual
def berthref21_early.j0:Nat→Int→Int→Bool→List ByteArray→List Int→List (List ByteArray)→List (List Int)→List (S66)→Int→Int→Int→Int→Int→Int→Option (Int)
  | 0,_,_,_,_,_,_,_,_,_,_,_,_,_,_=>none
  | k+1,x1,x6,x26,x167000,x167001,x167002,x167003,x167004,x167005,x167006,x169000,x169001,x169002,x169003=>if x26=true then (some 211) else ((berthref21_Operands.f k x6).bind fun bt169=>((berthref21_fits.f x167000 x167001 x167002 x167003 x167004 x167005 x167006 bt169.1 x169001).bind fun t172=>((berthref21_fits.f x167000 x167001 x167002 x167003 x167004 x167005 x167006 bt169.2.1 x169002).bind fun t173=>((berthref21_fits.f x167000 x167001 x167002 x167003 x167004 x167005 x167006 bt169.2.2 x169003).bind fun t174=>(if t172=true then (if t173=true then (berthref21_early.j1 k x1 x6 bt169.1 (x1 == (wrap64 ((x167004.length:Int) - 1))) (!t174) x167000 x167001 x167002 x167003 x167004 x167005 x167006 x169000 x169001 x169002 x169003) else (berthref21_early.j1 k x1 x6 bt169.1 (x1 == (wrap64 ((x167004.length:Int) - 1))) true x167000 x167001 x167002 x167003 x167004 x167005 x167006 x169000 x169001 x169002 x169003)) else (berthref21_early.j1 k x1 x6 bt169.1 (x1 == (wrap64 ((x167004.length:Int) - 1))) true x167000 x167001 x167002 x167003 x167004 x167005 x167006 x169000 x169001 x169002 x169003))))))
def berthref21_early.j1:Nat→Int→Int→Int→Bool→Bool→List ByteArray→List Int→List (List ByteArray)→List (List Int)→List (S66)→Int→Int→Int→Int→Int→Int→Option (Int)
  | 0,_,_,_,_,_,_,_,_,_,_,_,_,_,_,_,_=>none
  | k+1,x1,x6,x7,x13,x54,x167000,x167001,x167002,x167003,x167004,x167005,x167006,x169000,x169001,x169002,x169003=>if x54=true then (some 212) else (if x7=7 then (if x169001≤x1 then (berthref21_early.j2 k x6 x13 true) else (berthref21_early.j2 k x6 x13 (decide (x169001≥(x167004.length:Int))))) else (berthref21_early.j2 k x6 x13 false))
def berthref21_early.j2:Nat→Int→Bool→Bool→Option (Int)
  | 0,_,_,_=>none
  | k+1,x6,x13,x65=>if x65=true then (some 213) else (if ((x6 == 36) != x13)=true then (some 219) else (some 0))
end
def berthref21_early.f (k:Nat) (l0_0:List ByteArray) (l0_1:List Int) (l0_2:List (List ByteArray)) (l0_3:List (List Int)) (l0_4:List (S66)) (a0_5:Int) (a0_6:Int) (a1:Int):Option (Int):=if 0≤a1 then (if a1<(l0_4.length:Int) then (if ((aZg l0_4 a1).f0)<1 then (berthref21_early.j0 k a1 ((aZg l0_4 a1).f0) true l0_0 l0_1 l0_2 l0_3 l0_4 a0_5 a0_6 ((aZg l0_4 a1).f0) ((aZg l0_4 a1).f1) ((aZg l0_4 a1).f2) ((aZg l0_4 a1).f3)) else (berthref21_early.j0 k a1 ((aZg l0_4 a1).f0) (decide (((aZg l0_4 a1).f0) > 36)) l0_0 l0_1 l0_2 l0_3 l0_4 a0_5 a0_6 ((aZg l0_4 a1).f0) ((aZg l0_4 a1).f1) ((aZg l0_4 a1).f2) ((aZg l0_4 a1).f3))) else (none)) else (none)
theorem berthref21_early.calls (k:Nat) (A0_0:Option Addr) (c0_0:Nat) (l0_0:List ByteArray) (A0_1:Option Addr) (c0_1:Nat) (l0_1:List Int) (A0_2:Option Addr) (c0_2:Nat) (l0_2:List (List ByteArray)) (A0_3:Option Addr) (c0_3:Nat) (l0_3:List (List Int)) (A0_4:Option Addr) (c0_4:Nat) (l0_4:List (S66)) (a0_5:Int) (a0_6:Int) (a1:Int) (r:Int) (w:World) (hr0_0:Kd.C Kd.string w A0_0 l0_0.length l0_0) (hc0_0:l0_0.length≤c0_0) (hr0_1:Kd.C (Kd.int .i64) w A0_1 l0_1.length l0_1) (hc0_1:l0_1.length≤c0_1) (hr0_2:Kd.C (Kd.slice 9 Kd.string) w A0_2 l0_2.length l0_2) (hc0_2:l0_2.length≤c0_2) (hr0_3:Kd.C (Kd.slice 3 (Kd.int .i64)) w A0_3 l0_3.length l0_3) (hc0_3:l0_3.length≤c0_3) (hr0_4:Kd.C k66 w A0_4 l0_4.length l0_4) (hc0_4:l0_4.length≤c0_4) (h:berthref21_early.f k l0_0 l0_1 l0_2 l0_3 l0_4 a0_5 a0_6 a1=some r) :
 Calls Try.prog 56 #[.agg #[.slice A0_0 l0_0.length c0_0,.slice A0_1 l0_1.length c0_1,.slice A0_2 l0_2.length c0_2,.slice A0_3 l0_3.length c0_3,.slice A0_4 l0_4.length c0_4,.int .i64 a0_5,.int .i64 a0_6],.int .i64 a1] w fun e w'=>e=.returned (.int .i64 r)∧Below w.heap.size w w':=by
 have hu28:=Try.underlying28
 have hu66:=Try.underlying66
 have HR0_0:=Aside0.mk hr0_0
 have HC0_0:=Aside0.mk hc0_0
 clear hr0_0 hc0_0
 have HR0_1:=Aside0.mk hr0_1
 have HC0_1:=Aside0.mk hc0_1
 clear hr0_1 hc0_1
 have HR0_2:=Aside0.mk hr0_2
 have HC0_2:=Aside0.mk hc0_2
 clear hr0_2 hc0_2
 have HR0_3:=Aside0.mk hr0_3
 have HC0_3:=Aside0.mk hc0_3
 clear hr0_3 hc0_3
 have HR0_4:=Aside0.mk hr0_4
 have HC0_4:=Aside0.mk hc0_4
 clear hr0_4 hc0_4
 have HB:=Aside0.mk (Below.refl w.heap.size w)
 have H:(if 0≤a1 then (if a1<(l0_4.length:Int) then (if ((aZg l0_4 a1).f0)<1 then (berthref21_early.j0 k a1 ((aZg l0_4 a1).f0) true l0_0 l0_1 l0_2 l0_3 l0_4 a0_5 a0_6 ((aZg l0_4 a1).f0) ((aZg l0_4 a1).f1) ((aZg l0_4 a1).f2) ((aZg l0_4 a1).f3)) else (berthref21_early.j0 k a1 ((aZg l0_4 a1).f0) (decide (((aZg l0_4 a1).f0) > 36)) l0_0 l0_1 l0_2 l0_3 l0_4 a0_5 a0_6 ((aZg l0_4 a1).f0) ((aZg l0_4 a1).f1) ((aZg l0_4 a1).f2) ((aZg l0_4 a1).f3))) else (none)) else (none))=some r:=h
 clear h
 by_cases c3:0≤a1
 ·
  rw [if_pos c3] at H
  have c3b0:decide (0≤a1)=true:=decide_eq_true c3
  clear c3
  by_cases c4:a1<(l0_4.length:Int)
  ·
   rw [if_pos c4] at H
   have c4b0:decide (a1<(l0_4.length:Int))=true:=decide_eq_true c4
   clear c4
   have HC5:=Aside0.mk H
   clear H
   go_enter Try.func56,Try.ntmps56
   go_upto_region 3 with (first|((with_reducible refine aZr (N:=2) rfl ?_);(try (refine aZG (by rfl) ?_;dsimp only));refine aZy ?hg (N:=2) ?hd (cs:=#[.slice A0_0 l0_0.length c0_0,.slice A0_1 l0_1.length c0_1,.slice A0_2 l0_2.length c0_2,.slice A0_3 l0_3.length c0_3,.slice A0_4 l0_4.length c0_4,.int .i64 a0_5,.int .i64 a0_6]) (t:=28) ?hr ?_;(case hd=>rfl);(case hg=>rfl);(case hr=>first|(go_simp;done)|(go_simp;rfl));intro gb166 hg w6 hbox hb;have n0_:=Aside0.mk (aZo (by repeat (first|(with_reducible first|exact HB.out|apply aZb|apply aZa|apply aZc)|exact HB.out)) hb);have n1_:=Aside0.mk (hbox);have n2_:=Aside0.mk ((by rw [hg];exact (aZl (by repeat (first|(with_reducible first|exact HB.out|apply aZb|apply aZa|apply aZc)|exact HB.out))):w.heap.size≤gb166));have n3_:=Aside0.mk ((by rw [hg];exact (aZl (by repeat (first|(with_reducible first|exact HB.out|apply aZb|apply aZa|apply aZc)|exact HB.out))):w.heap.size≤gb166));clear HB;have HB:=n0_;have BK166:=n1_;have GW166:=n2_;have GE166:=n3_;clear n0_ n1_ n2_ n3_;clear hb hbox hg;have hcz7_0:w6.cell? ⟨gb166,0,none⟩=some (.slice A0_0 l0_0.length c0_0):=(aZd BK166.out 0).trans rfl;have hcz7_1:w6.cell? ⟨gb166,1,none⟩=some (.slice A0_1 l0_1.length c0_1):=(aZd BK166.out 1).trans rfl;have hcz7_2:w6.cell? ⟨gb166,2,none⟩=some (.slice A0_2 l0_2.length c0_2):=(aZd BK166.out 2).trans rfl;have hcz7_3:w6.cell? ⟨gb166,3,none⟩=some (.slice A0_3 l0_3.length c0_3):=(aZd BK166.out 3).trans rfl;have hcz7_4:w6.cell? ⟨gb166,4,none⟩=some (.slice A0_4 l0_4.length c0_4):=(aZd BK166.out 4).trans rfl;have hcz7_5:w6.cell? ⟨gb166,5,none⟩=some (.int .i64 a0_5):=(aZd BK166.out 5).trans rfl;have hcz7_6:w6.cell? ⟨gb166,6,none⟩=some (.int .i64 a0_6):=(aZd BK166.out 6).trans rfl;have hfz7_0:=aZe BK166.out 0;have hfz7_1:=aZe BK166.out 1;have hfz7_2:=aZe BK166.out 2;have hfz7_3:=aZe BK166.out 3;have hfz7_4:=aZe BK166.out 4;have hfz7_5:=aZe BK166.out 5;have hfz7_6:=aZe BK166.out 6;have p167:0≤(a1:Int):=of_decide_eq_true (by first|(with_reducible assumption)|assumption);have q167:a1<(l0_4.length:Int):=of_decide_eq_true (by first|(with_reducible assumption)|assumption);obtain ⟨ad167,e167,hx167_0,hx167_1,hx167_2,hx167_3⟩:=gZx HR0_4.out a1 p167 q167;cases e167;replace hx167_0:=(HB.out.cell (World.block_lt_of_cell? w _ hx167_0)).trans hx167_0;replace hx167_1:=(HB.out.cell (World.block_lt_of_cell? w _ hx167_1)).trans hx167_1;replace hx167_2:=(HB.out.cell (World.block_lt_of_cell? w _ hx167_2)).trans hx167_2;replace hx167_3:=(HB.out.cell (World.block_lt_of_cell? w _ hx167_3)).trans hx167_3;replace p167:=eq_true p167;replace q167:=eq_true q167)|((with_reducible refine aZr (N:=5) rfl ?_);(try (refine aZG (by rfl) ?_;dsimp only));refine aZy ?hg (N:=5) ?hd (cs:=#[.int .i64 0,.int .i64 0,.int .i64 0,.int .i64 0]) (t:=66) ?hr ?_;(case hd=>rfl);(case hg=>rfl);(case hr=>first|(go_simp;done)|(go_simp;rfl));intro gb168 hg w8 hbox hb;have n0_:=Aside0.mk (aZN (g:=gb166) (o:=.cells #[.slice A0_0 l0_0.length c0_0,.slice A0_1 l0_1.length c0_1,.slice A0_2 l0_2.length c0_2,.slice A0_3 l0_3.length c0_3,.slice (some ad167) l0_4.length c0_4,.int .i64 a0_5,.int .i64 a0_6] 28 (0,0)) (by (with_reducible repeat (first|refine aZi ?_ _|refine aZj ?_|refine aZh ?_ _));exact BK166.out) hb);have n1_:=Aside0.mk (aZo (by repeat (first|(with_reducible first|exact HB.out|apply aZb|apply aZa|apply aZc|refine aZf ?_ GE166.out)|exact HB.out)) hb);have n2_:=Aside0.mk (hbox);have n3_:=Aside0.mk ((by rw [hg];exact (aZl (by repeat (first|(with_reducible first|exact HB.out|apply aZb|apply aZa|apply aZc|refine aZf ?_ GE166.out)|exact HB.out))):w.heap.size≤gb168));have n4_:=Aside0.mk ((by rw [hg];exact (aZl (by repeat (first|(with_reducible first|exact HB.out|apply aZb|apply aZa|apply aZc|refine aZf ?_ GE166.out)|exact HB.out))):w.heap.size≤gb168));have n5_:=Aside0.mk ((by rw [hg];exact Nat.ne_of_lt (aZn (g:=gb166) (o:=.cells #[.slice A0_0 l0_0.length c0_0,.slice A0_1 l0_1.length c0_1,.slice A0_2 l0_2.length c0_2,.slice A0_3 l0_3.length c0_3,.slice (some ad167) l0_4.length c0_4,.int .i64 a0_5,.int .i64 a0_6] 28 (0,0)) (by (with_reducible repeat (first|refine aZi ?_ _|refine aZj ?_|refine aZh ?_ _));exact BK166.out)):gb166≠gb168));have n6_:=Aside0.mk ((by rw [hg];exact Nat.ne_of_gt (aZn (g:=gb166) (o:=.cells #[.slice A0_0 l0_0.length c0_0,.slice A0_1 l0_1.length c0_1,.slice A0_2 l0_2.length c0_2,.slice A0_3 l0_3.length c0_3,.slice (some ad167) l0_4.length c0_4,.int .i64 a0_5,.int .i64 a0_6] 28 (0,0)) (by (with_reducible repeat (first|refine aZi ?_ _|refine aZj ?_|refine aZh ?_ _));exact BK166.out)):gb168≠gb166));clear BK166;clear HB;have BK166:=n0_;have HB:=n1_;have BK168:=n2_;have GW168:=n3_;have GE168:=n4_;have NB166_168:=n5_;have NB168_166:=n6_;clear n0_ n1_ n2_ n3_ n4_ n5_ n6_;clear hb hbox hg;have hnb9:=NB168_166.out;have hnc9:=NB166_168.out;have hcz10_0:w8.cell? ⟨gb168,0,none⟩=some (.int .i64 0):=(aZd BK168.out 0).trans rfl;have hcz10_1:w8.cell? ⟨gb168,1,none⟩=some (.int .i64 0):=(aZd BK168.out 1).trans rfl;have hcz10_2:w8.cell? ⟨gb168,2,none⟩=some (.int .i64 0):=(aZd BK168.out 2).trans rfl;have hcz10_3:w8.cell? ⟨gb168,3,none⟩=some (.int .i64 0):=(aZd BK168.out 3).trans rfl;have hfz10_0:=aZe BK168.out 0;have hfz10_1:=aZe BK168.out 1;have hfz10_2:=aZe BK168.out 2;have hfz10_3:=aZe BK168.out 3))
   (try simp only [Act.put,List.setIfInBounds_toArray,List.set_cons_zero,List.set_cons_succ])
   go_cut [26] (fun v26 wc=>∃ (kq:Nat) (x26_4:Bool),v26=.bool x26_4∧Aside0 (berthref21_early.j0 kq a1 ((aZg l0_4 a1).f0) x26_4 l0_0 l0_1 l0_2 l0_3 l0_4 a0_5 a0_6 ((aZg l0_4 a1).f0) ((aZg l0_4 a1).f1) ((aZg l0_4 a1).f2) ((aZg l0_4 a1).f3)=some r)∧Aside0 (kq≤k)∧Aside0 (wc.heap[gb166]?=some (.cells #[(.slice A0_0 l0_0.length c0_0),(.slice A0_1 l0_1.length c0_1),(.slice A0_2 l0_2.length c0_2),(.slice A0_3 l0_3.length c0_3),(.slice (some ad167) l0_4.length c0_4),.int .i64 a0_5,.int .i64 a0_6] 28 (0,0)))∧Aside0 (wc.heap[gb168]?=some (.cells #[.int .i64 ((aZg l0_4 a1).f0),.int .i64 ((aZg l0_4 a1).f1),.int .i64 ((aZg l0_4 a1).f2),.int .i64 ((aZg l0_4 a1).f3)] 66 (0,0)))∧Aside0 (Below w.heap.size w wc))
   case first =>
    have H:=HC5.out
    clear HC5
    by_cases c11:((aZg l0_4 a1).f0)<1
    ·
     rw [if_pos c11] at H
     have c11b0:decide (((aZg l0_4 a1).f0)<1)=true:=decide_eq_true c11
     clear c11
     (first|rw [c11b0]|(simp only [aZk,aZP];rw [c11b0])|skip)
     have H':=Aside0.mk H
     clear H
     go_wp2
     go_meet
     case rel=>exact ⟨_,(true),(by first|rfl|(simp;done)|(simp [*];done)|(simp only [aZk];done)|(simp [aZk,Int.tdiv_eq_ediv_of_nonneg];done)),H',⟨by first|omega|exact Nat.le_refl _⟩,⟨by (with_reducible repeat (first|refine aZi ?_ _|refine aZj ?_|refine aZh ?_ _));refine aZJ ?_ NB166_168.out _;(with_reducible repeat (first|refine aZi ?_ _|refine aZj ?_|refine aZh ?_ _));refine aZJ ?_ NB166_168.out _;(with_reducible repeat (first|refine aZi ?_ _|refine aZj ?_|refine aZh ?_ _));refine aZJ ?_ NB166_168.out _;(with_reducible repeat (first|refine aZi ?_ _|refine aZj ?_|refine aZh ?_ _));refine aZJ ?_ NB166_168.out _;(with_reducible repeat (first|refine aZi ?_ _|refine aZj ?_|refine aZh ?_ _));exact BK166.out⟩,⟨by (with_reducible repeat (first|refine aZi ?_ _|refine aZj ?_|refine aZh ?_ _));refine aZH (cs:=#[.int .i64 ((aZg l0_4 a1).f0),.int .i64 ((aZg l0_4 a1).f1),.int .i64 ((aZg l0_4 a1).f2),.int .i64 0]) ?_ 3 _ rfl;(with_reducible repeat (first|refine aZi ?_ _|refine aZj ?_|refine aZh ?_ _));refine aZH (cs:=#[.int .i64 ((aZg l0_4 a1).f0),.int .i64 ((aZg l0_4 a1).f1),.int .i64 0,.int .i64 0]) ?_ 2 _ rfl;(with_reducible repeat (first|refine aZi ?_ _|refine aZj ?_|refine aZh ?_ _));refine aZH (cs:=#[.int .i64 ((aZg l0_4 a1).f0),.int .i64 0,.int .i64 0,.int .i64 0]) ?_ 1 _ rfl;(with_reducible repeat (first|refine aZi ?_ _|refine aZj ?_|refine aZh ?_ _));refine aZH (cs:=#[.int .i64 0,.int .i64 0,.int .i64 0,.int .i64 0]) ?_ 0 _ rfl;(with_reducible repeat (first|refine aZi ?_ _|refine aZj ?_|refine aZh ?_ _));exact BK168.out⟩,⟨by repeat (first|(with_reducible first|exact HB.out|apply aZb|apply aZa|apply aZc|refine aZf ?_ GE166.out|refine aZf ?_ GE168.out)|exact HB.out)⟩⟩
    ·
     rw [if_neg c11] at H
     have c11b0:decide (((aZg l0_4 a1).f0)<1)=false:=decide_eq_false c11
     clear c11
     (first|rw [c11b0]|(simp only [aZk,aZP];rw [c11b0])|skip)
     have H':=Aside0.mk H
     clear H
     go_wp2
     go_meet
     case rel=>exact ⟨_,(decide (((aZg l0_4 a1).f0) > 36)),(by first|rfl|(simp;done)|(simp [*];done)|(simp only [aZk];done)|(simp [aZk,Int.tdiv_eq_ediv_of_nonneg];done)),H',⟨by first|omega|exact Nat.le_refl _⟩,⟨by (with_reducible repeat (first|refine aZi ?_ _|refine aZj ?_|refine aZh ?_ _));refine aZJ ?_ NB166_168.out _;(with_reducible repeat (first|refine aZi ?_ _|refine aZj ?_|refine aZh ?_ _));refine aZJ ?_ NB166_168.out _;(with_reducible repeat (first|refine aZi ?_ _|refine aZj ?_|refine aZh ?_ _));refine aZJ ?_ NB166_168.out _;(with_reducible repeat (first|refine aZi ?_ _|refine aZj ?_|refine aZh ?_ _));refine aZJ ?_ NB166_168.out _;(with_reducible repeat (first|refine aZi ?_ _|refine aZj ?_|refine aZh ?_ _));exact BK166.out⟩,⟨by (with_reducible repeat (first|refine aZi ?_ _|refine aZj ?_|refine aZh ?_ _));refine aZH (cs:=#[.int .i64 ((aZg l0_4 a1).f0),.int .i64 ((aZg l0_4 a1).f1),.int .i64 ((aZg l0_4 a1).f2),.int .i64 0]) ?_ 3 _ rfl;(with_reducible repeat (first|refine aZi ?_ _|refine aZj ?_|refine aZh ?_ _));refine aZH (cs:=#[.int .i64 ((aZg l0_4 a1).f0),.int .i64 ((aZg l0_4 a1).f1),.int .i64 0,.int .i64 0]) ?_ 2 _ rfl;(with_reducible repeat (first|refine aZi ?_ _|refine aZj ?_|refine aZh ?_ _));refine aZH (cs:=#[.int .i64 ((aZg l0_4 a1).f0),.int .i64 0,.int .i64 0,.int .i64 0]) ?_ 1 _ rfl;(with_reducible repeat (first|refine aZi ?_ _|refine aZj ?_|refine aZh ?_ _));refine aZH (cs:=#[.int .i64 0,.int .i64 0,.int .i64 0,.int .i64 0]) ?_ 0 _ rfl;(with_reducible repeat (first|refine aZi ?_ _|refine aZj ?_|refine aZh ?_ _));exact BK168.out⟩,⟨by repeat (first|(with_reducible first|exact HB.out|apply aZb|apply aZa|apply aZc|refine aZf ?_ GE166.out|refine aZf ?_ GE168.out)|exact HB.out)⟩⟩
   case rest =>
    clear HC5
    try clear c1
    try clear p1
    try clear q1
    try clear hx1
    try clear p2
    try clear c3
    try clear c3b0
    try clear c4
    try clear c4b0
    try clear c5
    try clear c9
    try clear c11
    try clear c11b0
    try clear hcz10_0
    try clear hcz10_1
    try clear hcz10_2
    try clear hcz10_3
    try clear hcz7_0
    try clear hcz7_1
    try clear hcz7_2
    try clear hcz7_3
    try clear hcz7_4
    try clear hcz7_5
    try clear hcz7_6
    try clear hfz10_0
    try clear hfz10_1
    try clear hfz10_2
    try clear hfz10_3
    try clear hfz7_0
    try clear hfz7_1
    try clear hfz7_2
    try clear hfz7_3
    try clear hfz7_4
    try clear hfz7_5
    try clear hfz7_6
    try clear hx167_0
    try clear hx167_1
    try clear hx167_2
    try clear hx167_3
    try clear p167
    try clear q167
    obtain ⟨kq,x26_4,rfl,HA,HJ4,BK166,BK168,HB⟩:=hcut
    cases kq with
    | zero=>exact absurd HA.out (by simp [berthref21_early.j0])
    | succ kj4 =>
     have H:=HA.out
     clear HA
     simp only [berthref21_early.j0] at H
     by_cases c12:x26_4=true
     ·
      subst c12
      have H1:(some 211)=some r:=by rw [if_pos rfl] at H;exact H
      clear H
      have H:=H1
      clear H1
      obtain rfl:=Option.some.inj H
      go_wp2
      go_ret
      exact ⟨by first|rfl|(simp [errW_none,errW_some] <;> rfl)|(simp [*,errW_none,errW_some] <;> rfl),by repeat (first|(with_reducible first|exact HB.out|apply aZb|apply aZa|apply aZc|refine aZf ?_ GE166.out|refine aZf ?_ GE168.out)|exact HB.out)⟩
     ·
      replace c12:=Bool.eq_false_iff.mpr c12
      subst c12
      have H1:((berthref21_Operands.f kj4 ((aZg l0_4 a1).f0)).bind fun bt169=>((berthref21_fits.f l0_0 l0_1 l0_2 l0_3 l0_4 a0_5 a0_6 bt169.1 ((aZg l0_4 a1).f1)).bind fun t172=>((berthref21_fits.f l0_0 l0_1 l0_2 l0_3 l0_4 a0_5 a0_6 bt169.2.1 ((aZg l0_4 a1).f2)).bind fun t173=>((berthref21_fits.f l0_0 l0_1 l0_2 l0_3 l0_4 a0_5 a0_6 bt169.2.2 ((aZg l0_4 a1).f3)).bind fun t174=>(if t172=true then (if t173=true then (berthref21_early.j1 kj4 a1 ((aZg l0_4 a1).f0) bt169.1 (a1 == (wrap64 ((l0_4.length:Int) - 1))) (!t174) l0_0 l0_1 l0_2 l0_3 l0_4 a0_5 a0_6 ((aZg l0_4 a1).f0) ((aZg l0_4 a1).f1) ((aZg l0_4 a1).f2) ((aZg l0_4 a1).f3)) else (berthref21_early.j1 kj4 a1 ((aZg l0_4 a1).f0) bt169.1 (a1 == (wrap64 ((l0_4.length:Int) - 1))) true l0_0 l0_1 l0_2 l0_3 l0_4 a0_5 a0_6 ((aZg l0_4 a1).f0) ((aZg l0_4 a1).f1) ((aZg l0_4 a1).f2) ((aZg l0_4 a1).f3))) else (berthref21_early.j1 kj4 a1 ((aZg l0_4 a1).f0) bt169.1 (a1 == (wrap64 ((l0_4.length:Int) - 1))) true l0_0 l0_1 l0_2 l0_3 l0_4 a0_5 a0_6 ((aZg l0_4 a1).f0) ((aZg l0_4 a1).f1) ((aZg l0_4 a1).f2) ((aZg l0_4 a1).f3)))))))=some r:=by rw [if_neg (show ¬(false=true) by decide)] at H;exact H
      clear H
      have H:=H1
      clear H1
      replace H:=Option.bind_eq_some_iff.mp H
      obtain ⟨⟨t169,t170,t171⟩,A130,H⟩:=H
      replace H:((berthref21_fits.f l0_0 l0_1 l0_2 l0_3 l0_4 a0_5 a0_6 t169 ((aZg l0_4 a1).f1)).bind fun t172=>((berthref21_fits.f l0_0 l0_1 l0_2 l0_3 l0_4 a0_5 a0_6 t170 ((aZg l0_4 a1).f2)).bind fun t173=>((berthref21_fits.f l0_0 l0_1 l0_2 l0_3 l0_4 a0_5 a0_6 t171 ((aZg l0_4 a1).f3)).bind fun t174=>(if t172=true then (if t173=true then (berthref21_early.j1 kj4 a1 ((aZg l0_4 a1).f0) t169 (a1 == (wrap64 ((l0_4.length:Int) - 1))) (!t174) l0_0 l0_1 l0_2 l0_3 l0_4 a0_5 a0_6 ((aZg l0_4 a1).f0) ((aZg l0_4 a1).f1) ((aZg l0_4 a1).f2) ((aZg l0_4 a1).f3)) else (berthref21_early.j1 kj4 a1 ((aZg l0_4 a1).f0) t169 (a1 == (wrap64 ((l0_4.length:Int) - 1))) true l0_0 l0_1 l0_2 l0_3 l0_4 a0_5 a0_6 ((aZg l0_4 a1).f0) ((aZg l0_4 a1).f1) ((aZg l0_4 a1).f2) ((aZg l0_4 a1).f3))) else (berthref21_early.j1 kj4 a1 ((aZg l0_4 a1).f0) t169 (a1 == (wrap64 ((l0_4.length:Int) - 1))) true l0_0 l0_1 l0_2 l0_3 l0_4 a0_5 a0_6 ((aZg l0_4 a1).f0) ((aZg l0_4 a1).f1) ((aZg l0_4 a1).f2) ((aZg l0_4 a1).f3))))))=some r:=H
      have A13:=Aside0.mk A130
      clear A130
      replace H:=Option.bind_eq_some_iff.mp H
      obtain ⟨t172,A140,H⟩:=H
      replace H:((berthref21_fits.f l0_0 l0_1 l0_2 l0_3 l0_4 a0_5 a0_6 t170 ((aZg l0_4 a1).f2)).bind fun t173=>((berthref21_fits.f l0_0 l0_1 l0_2 l0_3 l0_4 a0_5 a0_6 t171 ((aZg l0_4 a1).f3)).bind fun t174=>(if t172=true then (if t173=true then (berthref21_early.j1 kj4 a1 ((aZg l0_4 a1).f0) t169 (a1 == (wrap64 ((l0_4.length:Int) - 1))) (!t174) l0_0 l0_1 l0_2 l0_3 l0_4 a0_5 a0_6 ((aZg l0_4 a1).f0) ((aZg l0_4 a1).f1) ((aZg l0_4 a1).f2) ((aZg l0_4 a1).f3)) else (berthref21_early.j1 kj4 a1 ((aZg l0_4 a1).f0) t169 (a1 == (wrap64 ((l0_4.length:Int) - 1))) true l0_0 l0_1 l0_2 l0_3 l0_4 a0_5 a0_6 ((aZg l0_4 a1).f0) ((aZg l0_4 a1).f1) ((aZg l0_4 a1).f2) ((aZg l0_4 a1).f3))) else (berthref21_early.j1 kj4 a1 ((aZg l0_4 a1).f0) t169 (a1 == (wrap64 ((l0_4.length:Int) - 1))) true l0_0 l0_1 l0_2 l0_3 l0_4 a0_5 a0_6 ((aZg l0_4 a1).f0) ((aZg l0_4 a1).f1) ((aZg l0_4 a1).f2) ((aZg l0_4 a1).f3)))))=some r:=H
      have A14:=Aside0.mk A140
      clear A140
      replace H:=Option.bind_eq_some_iff.mp H
      obtain ⟨t173,A150,H⟩:=H
      replace H:((berthref21_fits.f l0_0 l0_1 l0_2 l0_3 l0_4 a0_5 a0_6 t171 ((aZg l0_4 a1).f3)).bind fun t174=>(if t172=true then (if t173=true then (berthref21_early.j1 kj4 a1 ((aZg l0_4 a1).f0) t169 (a1 == (wrap64 ((l0_4.length:Int) - 1))) (!t174) l0_0 l0_1 l0_2 l0_3 l0_4 a0_5 a0_6 ((aZg l0_4 a1).f0) ((aZg l0_4 a1).f1) ((aZg l0_4 a1).f2) ((aZg l0_4 a1).f3)) else (berthref21_early.j1 kj4 a1 ((aZg l0_4 a1).f0) t169 (a1 == (wrap64 ((l0_4.length:Int) - 1))) true l0_0 l0_1 l0_2 l0_3 l0_4 a0_5 a0_6 ((aZg l0_4 a1).f0) ((aZg l0_4 a1).f1) ((aZg l0_4 a1).f2) ((aZg l0_4 a1).f3))) else (berthref21_early.j1 kj4 a1 ((aZg l0_4 a1).f0) t169 (a1 == (wrap64 ((l0_4.length:Int) - 1))) true l0_0 l0_1 l0_2 l0_3 l0_4 a0_5 a0_6 ((aZg l0_4 a1).f0) ((aZg l0_4 a1).f1) ((aZg l0_4 a1).f2) ((aZg l0_4 a1).f3))))=some r:=H
      have A15:=Aside0.mk A150
      clear A150
      replace H:=Option.bind_eq_some_iff.mp H
      obtain ⟨t174,A160,H⟩:=H
      replace H:(if t172=true then (if t173=true then (berthref21_early.j1 kj4 a1 ((aZg l0_4 a1).f0) t169 (a1 == (wrap64 ((l0_4.length:Int) - 1))) (!t174) l0_0 l0_1 l0_2 l0_3 l0_4 a0_5 a0_6 ((aZg l0_4 a1).f0) ((aZg l0_4 a1).f1) ((aZg l0_4 a1).f2) ((aZg l0_4 a1).f3)) else (berthref21_early.j1 kj4 a1 ((aZg l0_4 a1).f0) t169 (a1 == (wrap64 ((l0_4.length:Int) - 1))) true l0_0 l0_1 l0_2 l0_3 l0_4 a0_5 a0_6 ((aZg l0_4 a1).f0) ((aZg l0_4 a1).f1) ((aZg l0_4 a1).f2) ((aZg l0_4 a1).f3))) else (berthref21_early.j1 kj4 a1 ((aZg l0_4 a1).f0) t169 (a1 == (wrap64 ((l0_4.length:Int) - 1))) true l0_0 l0_1 l0_2 l0_3 l0_4 a0_5 a0_6 ((aZg l0_4 a1).f0) ((aZg l0_4 a1).f1) ((aZg l0_4 a1).f2) ((aZg l0_4 a1).f3)))=some r:=H
      have A16:=Aside0.mk A160
      clear A160
      have HC17:=Aside0.mk H
      clear H
      go_upto_region 10 with (first|((with_reducible refine aZq (f:=96) rfl ?_);refine aZT (some 29) rfl rfl Try.func96 (by kernel_rfl) rfl #[.int .i64 ((aZg l0_4 a1).f0)] rfl (by (try simp only [List.map_toArray,List.map_cons,List.map_nil]);first|done|rfl|(simp only [List.length_drop,List.length_take];rfl)) ?_;(with_reducible refine (berthref21_Operands.calls kj4 ((aZg l0_4 a1).f0) t169 t170 t171 _ A13.out).mono ?_);rintro e w' ⟨rfl,⟨nd,rfl⟩⟩;refine ⟨_,rfl,?_⟩;have hnb18:=NB166_168.out;have hnc18:=NB168_166.out;have hcz19_0:wc.cell? ⟨gb166,0,none⟩=some (.slice A0_0 l0_0.length c0_0):=(aZd BK166.out 0).trans rfl;have hcz19_1:wc.cell? ⟨gb166,1,none⟩=some (.slice A0_1 l0_1.length c0_1):=(aZd BK166.out 1).trans rfl;have hcz19_2:wc.cell? ⟨gb166,2,none⟩=some (.slice A0_2 l0_2.length c0_2):=(aZd BK166.out 2).trans rfl;have hcz19_3:wc.cell? ⟨gb166,3,none⟩=some (.slice A0_3 l0_3.length c0_3):=(aZd BK166.out 3).trans rfl;have hcz19_4:wc.cell? ⟨gb166,4,none⟩=some (.slice (some ad167) l0_4.length c0_4):=(aZd BK166.out 4).trans rfl;have hcz19_5:wc.cell? ⟨gb166,5,none⟩=some (.int .i64 a0_5):=(aZd BK166.out 5).trans rfl;have hcz19_6:wc.cell? ⟨gb166,6,none⟩=some (.int .i64 a0_6):=(aZd BK166.out 6).trans rfl;have hfz19_0:=aZe BK166.out 0;have hfz19_1:=aZe BK166.out 1;have hfz19_2:=aZe BK166.out 2;have hfz19_3:=aZe BK166.out 3;have hfz19_4:=aZe BK166.out 4;have hfz19_5:=aZe BK166.out 5;have hfz19_6:=aZe BK166.out 6;have hcz20_0:wc.cell? ⟨gb168,0,none⟩=some (.int .i64 ((aZg l0_4 a1).f0)):=(aZd BK168.out 0).trans rfl;have hcz20_1:wc.cell? ⟨gb168,1,none⟩=some (.int .i64 ((aZg l0_4 a1).f1)):=(aZd BK168.out 1).trans rfl;have hcz20_2:wc.cell? ⟨gb168,2,none⟩=some (.int .i64 ((aZg l0_4 a1).f2)):=(aZd BK168.out 2).trans rfl;have hcz20_3:wc.cell? ⟨gb168,3,none⟩=some (.int .i64 ((aZg l0_4 a1).f3)):=(aZd BK168.out 3).trans rfl;have hfz20_0:=aZe BK168.out 0;have hfz20_1:=aZe BK168.out 1;have hfz20_2:=aZe BK168.out 2;have hfz20_3:=aZe BK168.out 3)|((with_reducible refine aZq (f:=97) rfl ?_);refine aZT (some 37) rfl rfl Try.func97 (by kernel_rfl) rfl #[.agg #[.slice A0_0 l0_0.length c0_0,.slice A0_1 l0_1.length c0_1,.slice A0_2 l0_2.length c0_2,.slice A0_3 l0_3.length c0_3,.slice (some ad167) l0_4.length c0_4,.int .i64 a0_5,.int .i64 a0_6],.int .i64 t169,.int .i64 ((aZg l0_4 a1).f1)] rfl (by (try simp only [List.map_toArray,List.map_cons,List.map_nil]);first|done|rfl|(simp only [List.length_drop,List.length_take];rfl)) ?_;(with_reducible refine (berthref21_fits.calls _ _ l0_0 _ _ l0_1 _ _ l0_2 _ _ l0_3 _ _ l0_4 a0_5 a0_6 t169 ((aZg l0_4 a1).f1) t172 _ ?side1 ?side2 ?side3 ?side4 ?side5 ?side6 ?side7 ?side8 ?side9 ?side10 A14.out).mono ?_);(case side1=>repeat (first|exact (Kd.C_below HR0_0.out (by repeat (first|(with_reducible first|exact HB.out|apply aZb|apply aZa|apply aZc|refine aZf ?_ GE166.out|refine aZf ?_ GE168.out)|exact HB.out)))|(with_reducible refine Kd.C_alloc ?_ _)|(with_reducible refine Kd.C_drewN ?_ _)|(with_reducible refine Kd.C_drew ?_)));(case side2=>exact HC0_0.out);(case side3=>repeat (first|exact (Kd.C_below HR0_1.out (by repeat (first|(with_reducible first|exact HB.out|apply aZb|apply aZa|apply aZc|refine aZf ?_ GE166.out|refine aZf ?_ GE168.out)|exact HB.out)))|(with_reducible refine Kd.C_alloc ?_ _)|(with_reducible refine Kd.C_drewN ?_ _)|(with_reducible refine Kd.C_drew ?_)));(case side4=>exact HC0_1.out);(case side5=>repeat (first|exact (Kd.C_below HR0_2.out (by repeat (first|(with_reducible first|exact HB.out|apply aZb|apply aZa|apply aZc|refine aZf ?_ GE166.out|refine aZf ?_ GE168.out)|exact HB.out)))|(with_reducible refine Kd.C_alloc ?_ _)|(with_reducible refine Kd.C_drewN ?_ _)|(with_reducible refine Kd.C_drew ?_)));(case side6=>exact HC0_2.out);(case side7=>repeat (first|exact (Kd.C_below HR0_3.out (by repeat (first|(with_reducible first|exact HB.out|apply aZb|apply aZa|apply aZc|refine aZf ?_ GE166.out|refine aZf ?_ GE168.out)|exact HB.out)))|(with_reducible refine Kd.C_alloc ?_ _)|(with_reducible refine Kd.C_drewN ?_ _)|(with_reducible refine Kd.C_drew ?_)));(case side8=>exact HC0_3.out);(case side9=>repeat (first|exact (Kd.C_below HR0_4.out (by repeat (first|(with_reducible first|exact HB.out|apply aZb|apply aZa|apply aZc|refine aZf ?_ GE166.out|refine aZf ?_ GE168.out)|exact HB.out)))|(with_reducible refine Kd.C_alloc ?_ _)|(with_reducible refine Kd.C_drewN ?_ _)|(with_reducible refine Kd.C_drew ?_)));(case side10=>exact HC0_4.out);rintro e w21 ⟨rfl,hb⟩;refine ⟨_,rfl,?_⟩;have n0_:=Aside0.mk (aZN (g:=gb166) (o:=.cells #[.slice A0_0 l0_0.length c0_0,.slice A0_1 l0_1.length c0_1,.slice A0_2 l0_2.length c0_2,.slice A0_3 l0_3.length c0_3,.slice (some ad167) l0_4.length c0_4,.int .i64 a0_5,.int .i64 a0_6] 28 (0,0)) (by (with_reducible repeat (first|refine aZi ?_ _|refine aZj ?_|refine aZh ?_ _));exact BK166.out) hb);have n1_:=Aside0.mk (aZN (g:=gb168) (o:=.cells #[.int .i64 ((aZg l0_4 a1).f0),.int .i64 ((aZg l0_4 a1).f1),.int .i64 ((aZg l0_4 a1).f2),.int .i64 ((aZg l0_4 a1).f3)] 66 (0,0)) (by (with_reducible repeat (first|refine aZi ?_ _|refine aZj ?_|refine aZh ?_ _));exact BK168.out) hb);have n2_:=Aside0.mk (aZo (by repeat (first|(with_reducible first|exact HB.out|apply aZb|apply aZa|apply aZc|refine aZf ?_ GE166.out|refine aZf ?_ GE168.out)|exact HB.out)) hb);clear BK166;clear BK168;clear HB;have BK166:=n0_;have BK168:=n1_;have HB:=n2_;clear n0_ n1_ n2_;(try clear hb);(try clear hb2);(try clear hk);(try clear hi);have hcz22_0:w21.cell? ⟨gb166,0,none⟩=some (.slice A0_0 l0_0.length c0_0):=(aZd BK166.out 0).trans rfl;have hcz22_1:w21.cell? ⟨gb166,1,none⟩=some (.slice A0_1 l0_1.length c0_1):=(aZd BK166.out 1).trans rfl;have hcz22_2:w21.cell? ⟨gb166,2,none⟩=some (.slice A0_2 l0_2.length c0_2):=(aZd BK166.out 2).trans rfl;have hcz22_3:w21.cell? ⟨gb166,3,none⟩=some (.slice A0_3 l0_3.length c0_3):=(aZd BK166.out 3).trans rfl;have hcz22_4:w21.cell? ⟨gb166,4,none⟩=some (.slice (some ad167) l0_4.length c0_4):=(aZd BK166.out 4).trans rfl;have hcz22_5:w21.cell? ⟨gb166,5,none⟩=some (.int .i64 a0_5):=(aZd BK166.out 5).trans rfl;have hcz22_6:w21.cell? ⟨gb166,6,none⟩=some (.int .i64 a0_6):=(aZd BK166.out 6).trans rfl;have hfz22_0:=aZe BK166.out 0;have hfz22_1:=aZe BK166.out 1;have hfz22_2:=aZe BK166.out 2;have hfz22_3:=aZe BK166.out 3;have hfz22_4:=aZe BK166.out 4;have hfz22_5:=aZe BK166.out 5;have hfz22_6:=aZe BK166.out 6;have hcz23_0:w21.cell? ⟨gb168,0,none⟩=some (.int .i64 ((aZg l0_4 a1).f0)):=(aZd BK168.out 0).trans rfl;have hcz23_1:w21.cell? ⟨gb168,1,none⟩=some (.int .i64 ((aZg l0_4 a1).f1)):=(aZd BK168.out 1).trans rfl;have hcz23_2:w21.cell? ⟨gb168,2,none⟩=some (.int .i64 ((aZg l0_4 a1).f2)):=(aZd BK168.out 2).trans rfl;have hcz23_3:w21.cell? ⟨gb168,3,none⟩=some (.int .i64 ((aZg l0_4 a1).f3)):=(aZd BK168.out 3).trans rfl;have hfz23_0:=aZe BK168.out 0;have hfz23_1:=aZe BK168.out 1;have hfz23_2:=aZe BK168.out 2;have hfz23_3:=aZe BK168.out 3)|((with_reducible refine aZq (f:=97) rfl ?_);refine aZT (some 42) rfl rfl Try.func97 (by kernel_rfl) rfl #[.agg #[.slice A0_0 l0_0.length c0_0,.slice A0_1 l0_1.length c0_1,.slice A0_2 l0_2.length c0_2,.slice A0_3 l0_3.length c0_3,.slice (some ad167) l0_4.length c0_4,.int .i64 a0_5,.int .i64 a0_6],.int .i64 t170,.int .i64 ((aZg l0_4 a1).f2)] rfl (by (try simp only [List.map_toArray,List.map_cons,List.map_nil]);first|done|rfl|(simp only [List.length_drop,List.length_take];rfl)) ?_;(with_reducible refine (berthref21_fits.calls _ _ l0_0 _ _ l0_1 _ _ l0_2 _ _ l0_3 _ _ l0_4 a0_5 a0_6 t170 ((aZg l0_4 a1).f2) t173 _ ?side1 ?side2 ?side3 ?side4 ?side5 ?side6 ?side7 ?side8 ?side9 ?side10 A15.out).mono ?_);(case side1=>repeat (first|exact (Kd.C_below HR0_0.out HB.out)|(with_reducible refine Kd.C_alloc ?_ _)|(with_reducible refine Kd.C_drewN ?_ _)|(with_reducible refine Kd.C_drew ?_)));(case side2=>exact HC0_0.out);(case side3=>repeat (first|exact (Kd.C_below HR0_1.out HB.out)|(with_reducible refine Kd.C_alloc ?_ _)|(with_reducible refine Kd.C_drewN ?_ _)|(with_reducible refine Kd.C_drew ?_)));(case side4=>exact HC0_1.out);(case side5=>repeat (first|exact (Kd.C_below HR0_2.out HB.out)|(with_reducible refine Kd.C_alloc ?_ _)|(with_reducible refine Kd.C_drewN ?_ _)|(with_reducible refine Kd.C_drew ?_)));(case side6=>exact HC0_2.out);(case side7=>repeat (first|exact (Kd.C_below HR0_3.out HB.out)|(with_reducible refine Kd.C_alloc ?_ _)|(with_reducible refine Kd.C_drewN ?_ _)|(with_reducible refine Kd.C_drew ?_)));(case side8=>exact HC0_3.out);(case side9=>repeat (first|exact (Kd.C_below HR0_4.out HB.out)|(with_reducible refine Kd.C_alloc ?_ _)|(with_reducible refine Kd.C_drewN ?_ _)|(with_reducible refine Kd.C_drew ?_)));(case side10=>exact HC0_4.out);rintro e w24 ⟨rfl,hb⟩;refine ⟨_,rfl,?_⟩;have n0_:=Aside0.mk (aZN (g:=gb166) (o:=.cells #[.slice A0_0 l0_0.length c0_0,.slice A0_1 l0_1.length c0_1,.slice A0_2 l0_2.length c0_2,.slice A0_3 l0_3.length c0_3,.slice (some ad167) l0_4.length c0_4,.int .i64 a0_5,.int .i64 a0_6] 28 (0,0)) (by (with_reducible repeat (first|refine aZi ?_ _|refine aZj ?_|refine aZh ?_ _));exact BK166.out) hb);have n1_:=Aside0.mk (aZN (g:=gb168) (o:=.cells #[.int .i64 ((aZg l0_4 a1).f0),.int .i64 ((aZg l0_4 a1).f1),.int .i64 ((aZg l0_4 a1).f2),.int .i64 ((aZg l0_4 a1).f3)] 66 (0,0)) (by (with_reducible repeat (first|refine aZi ?_ _|refine aZj ?_|refine aZh ?_ _));exact BK168.out) hb);have n2_:=Aside0.mk (aZo (by repeat (first|(with_reducible first|exact HB.out|apply aZb|apply aZa|apply aZc|refine aZf ?_ GE166.out|refine aZf ?_ GE168.out)|exact HB.out)) hb);clear BK166;clear BK168;clear HB;have BK166:=n0_;have BK168:=n1_;have HB:=n2_;clear n0_ n1_ n2_;(try clear hb);(try clear hb2);(try clear hk);(try clear hi);have hcz25_0:w24.cell? ⟨gb166,0,none⟩=some (.slice A0_0 l0_0.length c0_0):=(aZd BK166.out 0).trans rfl;have hcz25_1:w24.cell? ⟨gb166,1,none⟩=some (.slice A0_1 l0_1.length c0_1):=(aZd BK166.out 1).trans rfl;have hcz25_2:w24.cell? ⟨gb166,2,none⟩=some (.slice A0_2 l0_2.length c0_2):=(aZd BK166.out 2).trans rfl;have hcz25_3:w24.cell? ⟨gb166,3,none⟩=some (.slice A0_3 l0_3.length c0_3):=(aZd BK166.out 3).trans rfl;have hcz25_4:w24.cell? ⟨gb166,4,none⟩=some (.slice (some ad167) l0_4.length c0_4):=(aZd BK166.out 4).trans rfl;have hcz25_5:w24.cell? ⟨gb166,5,none⟩=some (.int .i64 a0_5):=(aZd BK166.out 5).trans rfl;have hcz25_6:w24.cell? ⟨gb166,6,none⟩=some (.int .i64 a0_6):=(aZd BK166.out 6).trans rfl;have hfz25_0:=aZe BK166.out 0;have hfz25_1:=aZe BK166.out 1;have hfz25_2:=aZe BK166.out 2;have hfz25_3:=aZe BK166.out 3;have hfz25_4:=aZe BK166.out 4;have hfz25_5:=aZe BK166.out 5;have hfz25_6:=aZe BK166.out 6;have hcz26_0:w24.cell? ⟨gb168,0,none⟩=some (.int .i64 ((aZg l0_4 a1).f0)):=(aZd BK168.out 0).trans rfl;have hcz26_1:w24.cell? ⟨gb168,1,none⟩=some (.int .i64 ((aZg l0_4 a1).f1)):=(aZd BK168.out 1).trans rfl;have hcz26_2:w24.cell? ⟨gb168,2,none⟩=some (.int .i64 ((aZg l0_4 a1).f2)):=(aZd BK168.out 2).trans rfl;have hcz26_3:w24.cell? ⟨gb168,3,none⟩=some (.int .i64 ((aZg l0_4 a1).f3)):=(aZd BK168.out 3).trans rfl;have hfz26_0:=aZe BK168.out 0;have hfz26_1:=aZe BK168.out 1;have hfz26_2:=aZe BK168.out 2;have hfz26_3:=aZe BK168.out 3)|((with_reducible refine aZq (f:=97) rfl ?_);refine aZT (some 47) rfl rfl Try.func97 (by kernel_rfl) rfl #[.agg #[.slice A0_0 l0_0.length c0_0,.slice A0_1 l0_1.length c0_1,.slice A0_2 l0_2.length c0_2,.slice A0_3 l0_3.length c0_3,.slice (some ad167) l0_4.length c0_4,.int .i64 a0_5,.int .i64 a0_6],.int .i64 t171,.int .i64 ((aZg l0_4 a1).f3)] rfl (by (try simp only [List.map_toArray,List.map_cons,List.map_nil]);first|done|rfl|(simp only [List.length_drop,List.length_take];rfl)) ?_;(with_reducible refine (berthref21_fits.calls _ _ l0_0 _ _ l0_1 _ _ l0_2 _ _ l0_3 _ _ l0_4 a0_5 a0_6 t171 ((aZg l0_4 a1).f3) t174 _ ?side1 ?side2 ?side3 ?side4 ?side5 ?side6 ?side7 ?side8 ?side9 ?side10 A16.out).mono ?_);(case side1=>repeat (first|exact (Kd.C_below HR0_0.out HB.out)|(with_reducible refine Kd.C_alloc ?_ _)|(with_reducible refine Kd.C_drewN ?_ _)|(with_reducible refine Kd.C_drew ?_)));(case side2=>exact HC0_0.out);(case side3=>repeat (first|exact (Kd.C_below HR0_1.out HB.out)|(with_reducible refine Kd.C_alloc ?_ _)|(with_reducible refine Kd.C_drewN ?_ _)|(with_reducible refine Kd.C_drew ?_)));(case side4=>exact HC0_1.out);(case side5=>repeat (first|exact (Kd.C_below HR0_2.out HB.out)|(with_reducible refine Kd.C_alloc ?_ _)|(with_reducible refine Kd.C_drewN ?_ _)|(with_reducible refine Kd.C_drew ?_)));(case side6=>exact HC0_2.out);(case side7=>repeat (first|exact (Kd.C_below HR0_3.out HB.out)|(with_reducible refine Kd.C_alloc ?_ _)|(with_reducible refine Kd.C_drewN ?_ _)|(with_reducible refine Kd.C_drew ?_)));(case side8=>exact HC0_3.out);(case side9=>repeat (first|exact (Kd.C_below HR0_4.out HB.out)|(with_reducible refine Kd.C_alloc ?_ _)|(with_reducible refine Kd.C_drewN ?_ _)|(with_reducible refine Kd.C_drew ?_)));(case side10=>exact HC0_4.out);rintro e w27 ⟨rfl,hb⟩;refine ⟨_,rfl,?_⟩;have n0_:=Aside0.mk (aZN (g:=gb166) (o:=.cells #[.slice A0_0 l0_0.length c0_0,.slice A0_1 l0_1.length c0_1,.slice A0_2 l0_2.length c0_2,.slice A0_3 l0_3.length c0_3,.slice (some ad167) l0_4.length c0_4,.int .i64 a0_5,.int .i64 a0_6] 28 (0,0)) (by (with_reducible repeat (first|refine aZi ?_ _|refine aZj ?_|refine aZh ?_ _));exact BK166.out) hb);have n1_:=Aside0.mk (aZN (g:=gb168) (o:=.cells #[.int .i64 ((aZg l0_4 a1).f0),.int .i64 ((aZg l0_4 a1).f1),.int .i64 ((aZg l0_4 a1).f2),.int .i64 ((aZg l0_4 a1).f3)] 66 (0,0)) (by (with_reducible repeat (first|refine aZi ?_ _|refine aZj ?_|refine aZh ?_ _));exact BK168.out) hb);have n2_:=Aside0.mk (aZo (by repeat (first|(with_reducible first|exact HB.out|apply aZb|apply aZa|apply aZc|refine aZf ?_ GE166.out|refine aZf ?_ GE168.out)|exact HB.out)) hb);clear BK166;clear BK168;clear HB;have BK166:=n0_;have BK168:=n1_;have HB:=n2_;clear n0_ n1_ n2_;(try clear hb);(try clear hb2);(try clear hk);(try clear hi);have hcz28_0:w27.cell? ⟨gb166,0,none⟩=some (.slice A0_0 l0_0.length c0_0):=(aZd BK166.out 0).trans rfl;have hcz28_1:w27.cell? ⟨gb166,1,none⟩=some (.slice A0_1 l0_1.length c0_1):=(aZd BK166.out 1).trans rfl;have hcz28_2:w27.cell? ⟨gb166,2,none⟩=some (.slice A0_2 l0_2.length c0_2):=(aZd BK166.out 2).trans rfl;have hcz28_3:w27.cell? ⟨gb166,3,none⟩=some (.slice A0_3 l0_3.length c0_3):=(aZd BK166.out 3).trans rfl;have hcz28_4:w27.cell? ⟨gb166,4,none⟩=some (.slice (some ad167) l0_4.length c0_4):=(aZd BK166.out 4).trans rfl;have hcz28_5:w27.cell? ⟨gb166,5,none⟩=some (.int .i64 a0_5):=(aZd BK166.out 5).trans rfl;have hcz28_6:w27.cell? ⟨gb166,6,none⟩=some (.int .i64 a0_6):=(aZd BK166.out 6).trans rfl;have hfz28_0:=aZe BK166.out 0;have hfz28_1:=aZe BK166.out 1;have hfz28_2:=aZe BK166.out 2;have hfz28_3:=aZe BK166.out 3;have hfz28_4:=aZe BK166.out 4;have hfz28_5:=aZe BK166.out 5;have hfz28_6:=aZe BK166.out 6))
      (try simp only [Act.put,List.setIfInBounds_toArray,List.set_cons_zero,List.set_cons_succ])
      go_cut [54] (fun v54 wc=>∃ (kq:Nat) (x54_16:Bool),v54=.bool x54_16∧Aside0 (berthref21_early.j1 kq a1 ((aZg l0_4 a1).f0) t169 (a1 == (wrap64 ((l0_4.length:Int) - 1))) x54_16 l0_0 l0_1 l0_2 l0_3 l0_4 a0_5 a0_6 ((aZg l0_4 a1).f0) ((aZg l0_4 a1).f1) ((aZg l0_4 a1).f2) ((aZg l0_4 a1).f3)=some r)∧Aside0 (kq≤kj4)∧Aside0 (wc.heap[gb166]?=some (.cells #[(.slice A0_0 l0_0.length c0_0),(.slice A0_1 l0_1.length c0_1),(.slice A0_2 l0_2.length c0_2),(.slice A0_3 l0_3.length c0_3),(.slice (some ad167) l0_4.length c0_4),.int .i64 a0_5,.int .i64 a0_6] 28 (0,0)))∧Aside0 (wc.heap[gb168]?=some (.cells #[.int .i64 ((aZg l0_4 a1).f0),.int .i64 ((aZg l0_4 a1).f1),.int .i64 ((aZg l0_4 a1).f2),.int .i64 ((aZg l0_4 a1).f3)] 66 (0,0)))∧Aside0 (Below w.heap.size w wc))
      case first =>
       have H:=HC17.out
       clear HC17
       by_cases c29:t172=true
       ·
        subst c29
        have H1:(if t173=true then (berthref21_early.j1 kj4 a1 ((aZg l0_4 a1).f0) t169 (a1 == (wrap64 ((l0_4.length:Int) - 1))) (!t174) l0_0 l0_1 l0_2 l0_3 l0_4 a0_5 a0_6 ((aZg l0_4 a1).f0) ((aZg l0_4 a1).f1) ((aZg l0_4 a1).f2) ((aZg l0_4 a1).f3)) else (berthref21_early.j1 kj4 a1 ((aZg l0_4 a1).f0) t169 (a1 == (wrap64 ((l0_4.length:Int) - 1))) true l0_0 l0_1 l0_2 l0_3 l0_4 a0_5 a0_6 ((aZg l0_4 a1).f0) ((aZg l0_4 a1).f1) ((aZg l0_4 a1).f2) ((aZg l0_4 a1).f3)))=some r:=by rw [if_pos rfl] at H;exact H
        clear H
        have H:=H1
        clear H1
        by_cases c30:t173=true
        ·
         subst c30
         have H1:(berthref21_early.j1 kj4 a1 ((aZg l0_4 a1).f0) t169 (a1 == (wrap64 ((l0_4.length:Int) - 1))) (!t174) l0_0 l0_1 l0_2 l0_3 l0_4 a0_5 a0_6 ((aZg l0_4 a1).f0) ((aZg l0_4 a1).f1) ((aZg l0_4 a1).f2) ((aZg l0_4 a1).f3))=some r:=by rw [if_pos rfl] at H;exact H
         clear H
         have H:=H1
         clear H1
         have H':=Aside0.mk H
         clear H
         go_wp2
         go_meet
         case rel=>exact ⟨_,(!t174),(by first|rfl|(simp;done)|(simp [*];done)|(simp only [aZk];done)|(simp [aZk,Int.tdiv_eq_ediv_of_nonneg];done)),H',⟨by have:=HJ4.out;first|omega|exact Nat.le_refl _⟩,⟨by (with_reducible repeat (first|refine aZi ?_ _|refine aZj ?_|refine aZh ?_ _));exact BK166.out⟩,⟨by (with_reducible repeat (first|refine aZi ?_ _|refine aZj ?_|refine aZh ?_ _));exact BK168.out⟩,⟨by repeat (first|(with_reducible first|exact HB.out|apply aZb|apply aZa|apply aZc|refine aZf ?_ GE166.out|refine aZf ?_ GE168.out)|exact HB.out)⟩⟩
        ·
         replace c30:=Bool.eq_false_iff.mpr c30
         subst c30
         have H1:(berthref21_early.j1 kj4 a1 ((aZg l0_4 a1).f0) t169 (a1 == (wrap64 ((l0_4.length:Int) - 1))) true l0_0 l0_1 l0_2 l0_3 l0_4 a0_5 a0_6 ((aZg l0_4 a1).f0) ((aZg l0_4 a1).f1) ((aZg l0_4 a1).f2) ((aZg l0_4 a1).f3))=some r:=by rw [if_neg (show ¬(false=true) by decide)] at H;exact H
         clear H
         have H:=H1
         clear H1
         have H':=Aside0.mk H
         clear H
         go_wp2
         go_meet
         case rel=>exact ⟨_,(true),(by first|rfl|(simp;done)|(simp [*];done)|(simp only [aZk];done)|(simp [aZk,Int.tdiv_eq_ediv_of_nonneg];done)),H',⟨by have:=HJ4.out;first|omega|exact Nat.le_refl _⟩,⟨by (with_reducible repeat (first|refine aZi ?_ _|refine aZj ?_|refine aZh ?_ _));exact BK166.out⟩,⟨by (with_reducible repeat (first|refine aZi ?_ _|refine aZj ?_|refine aZh ?_ _));exact BK168.out⟩,⟨by repeat (first|(with_reducible first|exact HB.out|apply aZb|apply aZa|apply aZc|refine aZf ?_ GE166.out|refine aZf ?_ GE168.out)|exact HB.out)⟩⟩
       ·
        replace c29:=Bool.eq_false_iff.mpr c29
        subst c29
        have H1:(berthref21_early.j1 kj4 a1 ((aZg l0_4 a1).f0) t169 (a1 == (wrap64 ((l0_4.length:Int) - 1))) true l0_0 l0_1 l0_2 l0_3 l0_4 a0_5 a0_6 ((aZg l0_4 a1).f0) ((aZg l0_4 a1).f1) ((aZg l0_4 a1).f2) ((aZg l0_4 a1).f3))=some r:=by rw [if_neg (show ¬(false=true) by decide)] at H;exact H
        clear H
        have H:=H1
        clear H1
        have H':=Aside0.mk H
        clear H
        go_wp2
        go_meet
        case rel=>exact ⟨_,(true),(by first|rfl|(simp;done)|(simp [*];done)|(simp only [aZk];done)|(simp [aZk,Int.tdiv_eq_ediv_of_nonneg];done)),H',⟨by have:=HJ4.out;first|omega|exact Nat.le_refl _⟩,⟨by (with_reducible repeat (first|refine aZi ?_ _|refine aZj ?_|refine aZh ?_ _));exact BK166.out⟩,⟨by (with_reducible repeat (first|refine aZi ?_ _|refine aZj ?_|refine aZh ?_ _));exact BK168.out⟩,⟨by repeat (first|(with_reducible first|exact HB.out|apply aZb|apply aZa|apply aZc|refine aZf ?_ GE166.out|refine aZf ?_ GE168.out)|exact HB.out)⟩⟩
      case rest =>
       clear HC17
       try clear c1
       try clear p1
       try clear q1
       try clear hx1
       try clear c2
       try clear p2
       try clear c3
       try clear c3b0
       try clear c4
       try clear c4b0
       try clear c5
       try clear p6
       try clear c9
       try clear c11
       try clear c11b0
       try clear c12
       try clear p16
       try clear q16
       try clear hx16
       try clear c18
       try clear c29
       try clear c30
       try clear hcz10_0
       try clear hcz10_1
       try clear hcz10_2
       try clear hcz10_3
       try clear hcz19_0
       try clear hcz19_1
       try clear hcz19_2
       try clear hcz19_3
       try clear hcz19_4
       try clear hcz19_5
       try clear hcz19_6
       try clear hcz20_0
       try clear hcz20_1
       try clear hcz20_2
       try clear hcz20_3
       try clear hcz22_0
       try clear hcz22_1
       try clear hcz22_2
       try clear hcz22_3
       try clear hcz22_4
       try clear hcz22_5
       try clear hcz22_6
       try clear hcz23_0
       try clear hcz23_1
       try clear hcz23_2
       try clear hcz23_3
       try clear hcz25_0
       try clear hcz25_1
       try clear hcz25_2
       try clear hcz25_3
       try clear hcz25_4
       try clear hcz25_5
       try clear hcz25_6
       try clear hcz26_0
       try clear hcz26_1
       try clear hcz26_2
       try clear hcz26_3
       try clear hcz28_0
       try clear hcz28_1
       try clear hcz28_2
       try clear hcz28_3
       try clear hcz28_4
       try clear hcz28_5
       try clear hcz28_6
       try clear hcz7_0
       try clear hcz7_1
       try clear hcz7_2
       try clear hcz7_3
       try clear hcz7_4
       try clear hcz7_5
       try clear hcz7_6
       try clear hfz10_0
       try clear hfz10_1
       try clear hfz10_2
       try clear hfz10_3
       try clear hfz19_0
       try clear hfz19_1
       try clear hfz19_2
       try clear hfz19_3
       try clear hfz19_4
       try clear hfz19_5
       try clear hfz19_6
       try clear hfz20_0
       try clear hfz20_1
       try clear hfz20_2
       try clear hfz20_3
       try clear hfz22_0
       try clear hfz22_1
       try clear hfz22_2
       try clear hfz22_3
       try clear hfz22_4
       try clear hfz22_5
       try clear hfz22_6
       try clear hfz23_0
       try clear hfz23_1
       try clear hfz23_2
       try clear hfz23_3
       try clear hfz25_0
       try clear hfz25_1
       try clear hfz25_2
       try clear hfz25_3
       try clear hfz25_4
       try clear hfz25_5
       try clear hfz25_6
       try clear hfz26_0
       try clear hfz26_1
       try clear hfz26_2
       try clear hfz26_3
       try clear hfz28_0
       try clear hfz28_1
       try clear hfz28_2
       try clear hfz28_3
       try clear hfz28_4
       try clear hfz28_5
       try clear hfz28_6
       try clear hfz7_0
       try clear hfz7_1
       try clear hfz7_2
       try clear hfz7_3
       try clear hfz7_4
       try clear hfz7_5
       try clear hfz7_6
       try clear hx167_0
       try clear hx167_1
       try clear hx167_2
       try clear hx167_3
       try clear p1
       try clear p167
       try clear p2
       try clear q1
       try clear q167
       obtain ⟨kq,x54_16,rfl,HA,HJ16,BK166,BK168,HB⟩:=hcut
       cases kq with
       | zero=>exact absurd HA.out (by simp [berthref21_early.j1])
       | succ kj16 =>
        have H:=HA.out
        clear HA
        simp only [berthref21_early.j1] at H
        by_cases c31:x54_16=true
        ·
         subst c31
         have H1:(some 212)=some r:=by rw [if_pos rfl] at H;exact H
         clear H
         have H:=H1
         clear H1
         obtain rfl:=Option.some.inj H
         go_wp2
         go_ret
         exact ⟨by first|rfl|(simp [errW_none,errW_some] <;> rfl)|(simp [*,errW_none,errW_some] <;> rfl),by repeat (first|(with_reducible first|exact HB.out|apply aZb|apply aZa|apply aZc|refine aZf ?_ GE166.out|refine aZf ?_ GE168.out)|exact HB.out)⟩
        ·
         replace c31:=Bool.eq_false_iff.mpr c31
         subst c31
         have H1:(if t169=7 then (if ((aZg l0_4 a1).f1)≤a1 then (berthref21_early.j2 kj16 ((aZg l0_4 a1).f0) (a1 == (wrap64 ((l0_4.length:Int) - 1))) true) else (berthref21_early.j2 kj16 ((aZg l0_4 a1).f0) (a1 == (wrap64 ((l0_4.length:Int) - 1))) (decide (((aZg l0_4 a1).f1)≥(l0_4.length:Int))))) else (berthref21_early.j2 kj16 ((aZg l0_4 a1).f0) (a1 == (wrap64 ((l0_4.length:Int) - 1))) false))=some r:=by rw [if_neg (show ¬(false=true) by decide)] at H;exact H
         clear H
         have H:=H1
         clear H1
         have HC32:=Aside0.mk H
         clear H
         go_upto_region 12 with (fail)
         go_cut [65] (fun v65 wc=>∃ (kq:Nat) (x65_31:Bool),v65=.bool x65_31∧Aside0 (berthref21_early.j2 kq ((aZg l0_4 a1).f0) (a1 == (wrap64 ((l0_4.length:Int) - 1))) x65_31=some r)∧Aside0 (kq≤kj16)∧Aside0 (wc.heap[gb166]?=some (.cells #[(.slice A0_0 l0_0.length c0_0),(.slice A0_1 l0_1.length c0_1),(.slice A0_2 l0_2.length c0_2),(.slice A0_3 l0_3.length c0_3),(.slice (some ad167) l0_4.length c0_4),.int .i64 a0_5,.int .i64 a0_6] 28 (0,0)))∧Aside0 (wc.heap[gb168]?=some (.cells #[.int .i64 ((aZg l0_4 a1).f0),.int .i64 ((aZg l0_4 a1).f1),.int .i64 ((aZg l0_4 a1).f2),.int .i64 ((aZg l0_4 a1).f3)] 66 (0,0)))∧Aside0 (Below w.heap.size w wc))
         case first =>
          have H:=HC32.out
          clear HC32
          by_cases c33:t169=7
          ·
           rw [if_pos c33] at H
           have c33b0:(t169 == 7)=true:=beq_iff_eq.mpr c33
           have c33b1:(t169 != 7)=false:=bne_eq_false_iff_eq.mpr c33
           clear c33
           (first|rw [c33b0]|(simp only [aZk,aZP];rw [c33b0])|skip)
           by_cases c34:((aZg l0_4 a1).f1)≤a1
           ·
            rw [if_pos c34] at H
            have c34b0:decide (((aZg l0_4 a1).f1)≤a1)=true:=decide_eq_true c34
            clear c34
            have H':=Aside0.mk H
            clear H
            have hnb35:=NB168_166.out
            have hnc35:=NB166_168.out
            have hcz36_0:wc.cell? ⟨gb168,0,none⟩=some (.int .i64 ((aZg l0_4 a1).f0)):=(aZd BK168.out 0).trans rfl
            have hcz36_1:wc.cell? ⟨gb168,1,none⟩=some (.int .i64 ((aZg l0_4 a1).f1)):=(aZd BK168.out 1).trans rfl
            have hcz36_2:wc.cell? ⟨gb168,2,none⟩=some (.int .i64 ((aZg l0_4 a1).f2)):=(aZd BK168.out 2).trans rfl
            have hcz36_3:wc.cell? ⟨gb168,3,none⟩=some (.int .i64 ((aZg l0_4 a1).f3)):=(aZd BK168.out 3).trans rfl
            have hfz36_0:=aZe BK168.out 0
            have hfz36_1:=aZe BK168.out 1
            have hfz36_2:=aZe BK168.out 2
            have hfz36_3:=aZe BK168.out 3
            go_wp2
            go_meet
            case rel=>exact ⟨_,(true),(by first|rfl|(simp;done)|(simp [*];done)|(simp only [aZk];done)|(simp [aZk,Int.tdiv_eq_ediv_of_nonneg];done)),H',⟨by have:=HJ4.out;have:=HJ16.out;first|omega|exact Nat.le_refl _⟩,⟨by (with_reducible repeat (first|refine aZi ?_ _|refine aZj ?_|refine aZh ?_ _));exact BK166.out⟩,⟨by (with_reducible repeat (first|refine aZi ?_ _|refine aZj ?_|refine aZh ?_ _));exact BK168.out⟩,⟨by repeat (first|(with_reducible first|exact HB.out|apply aZb|apply aZa|apply aZc|refine aZf ?_ GE166.out|refine aZf ?_ GE168.out)|exact HB.out)⟩⟩
           ·
            rw [if_neg c34] at H
            have c34b0:decide (((aZg l0_4 a1).f1)≤a1)=false:=decide_eq_false c34
            clear c34
            have H':=Aside0.mk H
            clear H
            have hnb37:=NB168_166.out
            have hnc37:=NB166_168.out
            have hcz38_0:wc.cell? ⟨gb168,0,none⟩=some (.int .i64 ((aZg l0_4 a1).f0)):=(aZd BK168.out 0).trans rfl
            have hcz38_1:wc.cell? ⟨gb168,1,none⟩=some (.int .i64 ((aZg l0_4 a1).f1)):=(aZd BK168.out 1).trans rfl
            have hcz38_2:wc.cell? ⟨gb168,2,none⟩=some (.int .i64 ((aZg l0_4 a1).f2)):=(aZd BK168.out 2).trans rfl
            have hcz38_3:wc.cell? ⟨gb168,3,none⟩=some (.int .i64 ((aZg l0_4 a1).f3)):=(aZd BK168.out 3).trans rfl
            have hfz38_0:=aZe BK168.out 0
            have hfz38_1:=aZe BK168.out 1
            have hfz38_2:=aZe BK168.out 2
            have hfz38_3:=aZe BK168.out 3
            have hcz39_0:wc.cell? ⟨gb166,0,none⟩=some (.slice A0_0 l0_0.length c0_0):=(aZd BK166.out 0).trans rfl
            have hcz39_1:wc.cell? ⟨gb166,1,none⟩=some (.slice A0_1 l0_1.length c0_1):=(aZd BK166.out 1).trans rfl
            have hcz39_2:wc.cell? ⟨gb166,2,none⟩=some (.slice A0_2 l0_2.length c0_2):=(aZd BK166.out 2).trans rfl
            have hcz39_3:wc.cell? ⟨gb166,3,none⟩=some (.slice A0_3 l0_3.length c0_3):=(aZd BK166.out 3).trans rfl
            have hcz39_4:wc.cell? ⟨gb166,4,none⟩=some (.slice (some ad167) l0_4.length c0_4):=(aZd BK166.out 4).trans rfl
            have hcz39_5:wc.cell? ⟨gb166,5,none⟩=some (.int .i64 a0_5):=(aZd BK166.out 5).trans rfl
            have hcz39_6:wc.cell? ⟨gb166,6,none⟩=some (.int .i64 a0_6):=(aZd BK166.out 6).trans rfl
            have hfz39_0:=aZe BK166.out 0
            have hfz39_1:=aZe BK166.out 1
            have hfz39_2:=aZe BK166.out 2
            have hfz39_3:=aZe BK166.out 3
            have hfz39_4:=aZe BK166.out 4
            have hfz39_5:=aZe BK166.out 5
            have hfz39_6:=aZe BK166.out 6
            go_wp2
            go_meet
            case rel=>exact ⟨_,(decide (((aZg l0_4 a1).f1)≥(l0_4.length:Int))),(by first|rfl|(simp;done)|(simp [*];done)|(simp only [aZk];done)|(simp [aZk,Int.tdiv_eq_ediv_of_nonneg];done)),H',⟨by have:=HJ4.out;have:=HJ16.out;first|omega|exact Nat.le_refl _⟩,⟨by (with_reducible repeat (first|refine aZi ?_ _|refine aZj ?_|refine aZh ?_ _));exact BK166.out⟩,⟨by (with_reducible repeat (first|refine aZi ?_ _|refine aZj ?_|refine aZh ?_ _));exact BK168.out⟩,⟨by repeat (first|(with_reducible first|exact HB.out|apply aZb|apply aZa|apply aZc|refine aZf ?_ GE166.out|refine aZf ?_ GE168.out)|exact HB.out)⟩⟩
          ·
           rw [if_neg c33] at H
           have c33b0:(t169 == 7)=false:=beq_eq_false_iff_ne.mpr c33
           have c33b1:(t169 != 7)=true:=bne_iff_ne.mpr c33
           (first|rw [c33b0]|(simp only [aZk,aZP];rw [c33b0])|skip)
           have H':=Aside0.mk H
           clear H
           go_wp2
           go_meet
           case rel=>exact ⟨_,(false),(by first|rfl|(simp;done)|(simp [*];done)|(simp only [aZk];done)|(simp [aZk,Int.tdiv_eq_ediv_of_nonneg];done)),H',⟨by have:=HJ4.out;have:=HJ16.out;first|omega|exact Nat.le_refl _⟩,⟨by (with_reducible repeat (first|refine aZi ?_ _|refine aZj ?_|refine aZh ?_ _));exact BK166.out⟩,⟨by (with_reducible repeat (first|refine aZi ?_ _|refine aZj ?_|refine aZh ?_ _));exact BK168.out⟩,⟨by repeat (first|(with_reducible first|exact HB.out|apply aZb|apply aZa|apply aZc|refine aZf ?_ GE166.out|refine aZf ?_ GE168.out)|exact HB.out)⟩⟩
         case rest =>
          clear HC32
          try clear c1
          try clear p1
          try clear q1
          try clear hx1
          try clear c2
          try clear p2
          try clear c3
          try clear c3b0
          try clear c4
          try clear c4b0
          try clear c5
          try clear p6
          try clear c9
          try clear c11
          try clear c11b0
          try clear c12
          try clear p16
          try clear q16
          try clear hx16
          try clear c18
          try clear c29
          try clear c30
          try clear c31
          try clear c33
          try clear c33b0
          try clear c33b1
          try clear c34
          try clear c34b0
          try clear c35
          try clear c37
          try clear hcz10_0
          try clear hcz10_1
          try clear hcz10_2
          try clear hcz10_3
          try clear hcz19_0
          try clear hcz19_1
          try clear hcz19_2
          try clear hcz19_3
          try clear hcz19_4
          try clear hcz19_5
          try clear hcz19_6
          try clear hcz20_0
          try clear hcz20_1
          try clear hcz20_2
          try clear hcz20_3
          try clear hcz22_0
          try clear hcz22_1
          try clear hcz22_2
          try clear hcz22_3
          try clear hcz22_4
          try clear hcz22_5
          try clear hcz22_6
          try clear hcz23_0
          try clear hcz23_1
          try clear hcz23_2
          try clear hcz23_3
          try clear hcz25_0
          try clear hcz25_1
          try clear hcz25_2
          try clear hcz25_3
          try clear hcz25_4
          try clear hcz25_5
          try clear hcz25_6
          try clear hcz26_0
          try clear hcz26_1
          try clear hcz26_2
          try clear hcz26_3
          try clear hcz28_0
          try clear hcz28_1
          try clear hcz28_2
          try clear hcz28_3
          try clear hcz28_4
          try clear hcz28_5
          try clear hcz28_6
          try clear hcz36_0
          try clear hcz36_1
          try clear hcz36_2
          try clear hcz36_3
          try clear hcz38_0
          try clear hcz38_1
          try clear hcz38_2
          try clear hcz38_3
          try clear hcz39_0
          try clear hcz39_1
          try clear hcz39_2
          try clear hcz39_3
          try clear hcz39_4
          try clear hcz39_5
          try clear hcz39_6
          try clear hcz7_0
          try clear hcz7_1
          try clear hcz7_2
          try clear hcz7_3
          try clear hcz7_4
          try clear hcz7_5
          try clear hcz7_6
          try clear hfz10_0
          try clear hfz10_1
          try clear hfz10_2
          try clear hfz10_3
          try clear hfz19_0
          try clear hfz19_1
          try clear hfz19_2
          try clear hfz19_3
          try clear hfz19_4
          try clear hfz19_5
          try clear hfz19_6
          try clear hfz20_0
          try clear hfz20_1
          try clear hfz20_2
          try clear hfz20_3
          try clear hfz22_0
          try clear hfz22_1
          try clear hfz22_2
          try clear hfz22_3
          try clear hfz22_4
          try clear hfz22_5
          try clear hfz22_6
          try clear hfz23_0
          try clear hfz23_1
          try clear hfz23_2
          try clear hfz23_3
          try clear hfz25_0
          try clear hfz25_1
          try clear hfz25_2
          try clear hfz25_3
          try clear hfz25_4
          try clear hfz25_5
          try clear hfz25_6
          try clear hfz26_0
          try clear hfz26_1
          try clear hfz26_2
          try clear hfz26_3
          try clear hfz28_0
          try clear hfz28_1
          try clear hfz28_2
          try clear hfz28_3
          try clear hfz28_4
          try clear hfz28_5
          try clear hfz28_6
          try clear hfz36_0
          try clear hfz36_1
          try clear hfz36_2
          try clear hfz36_3
          try clear hfz38_0
          try clear hfz38_1
          try clear hfz38_2
          try clear hfz38_3
          try clear hfz39_0
          try clear hfz39_1
          try clear hfz39_2
          try clear hfz39_3
          try clear hfz39_4
          try clear hfz39_5
          try clear hfz39_6
          try clear hfz7_0
          try clear hfz7_1
          try clear hfz7_2
          try clear hfz7_3
          try clear hfz7_4
          try clear hfz7_5
          try clear hfz7_6
          try clear hx167_0
          try clear hx167_1
          try clear hx167_2
          try clear hx167_3
          try clear p1
          try clear p16
          try clear p167
          try clear p2
          try clear p6
          try clear q1
          try clear q16
          try clear q167
          obtain ⟨kq,x65_31,rfl,HA,HJ31,BK166,BK168,HB⟩:=hcut
          cases kq with
          | zero=>exact absurd HA.out (by simp [berthref21_early.j2])
          | succ kj31 =>
           have H:=HA.out
           clear HA
           simp only [berthref21_early.j2] at H
           by_cases c40:x65_31=true
           ·
            subst c40
            have H1:(some 213)=some r:=by rw [if_pos rfl] at H;exact H
            clear H
            have H:=H1
            clear H1
            obtain rfl:=Option.some.inj H
            go_wp2
            go_ret
            exact ⟨by first|rfl|(simp [errW_none,errW_some] <;> rfl)|(simp [*,errW_none,errW_some] <;> rfl),by repeat (first|(with_reducible first|exact HB.out|apply aZb|apply aZa|apply aZc|refine aZf ?_ GE166.out|refine aZf ?_ GE168.out)|exact HB.out)⟩
           ·
            replace c40:=Bool.eq_false_iff.mpr c40
            subst c40
            have H1:(if ((((aZg l0_4 a1).f0) == 36) != (a1 == (wrap64 ((l0_4.length:Int) - 1))))=true then (some 219) else (some 0))=some r:=by rw [if_neg (show ¬(false=true) by decide)] at H;exact H
            clear H
            have H:=H1
            clear H1
            by_cases c41:((((aZg l0_4 a1).f0) == 36) != (a1 == (wrap64 ((l0_4.length:Int) - 1))))=true
            ·
             rw [if_pos c41] at H
             have c41b0:((((aZg l0_4 a1).f0) == 36) != (a1 == (wrap64 ((l0_4.length:Int) - 1))))=true:=c41
             (try (have c41b1:decide ((((aZg l0_4 a1).f0) == 36)=(a1 == (wrap64 ((l0_4.length:Int) - 1))))=false:=by simpa using c41))
             (try (have c41b2:((((aZg l0_4 a1).f0) == 36) == (a1 == (wrap64 ((l0_4.length:Int) - 1))))=false:=by simpa using c41))
             (try (have c41b3:¬((((aZg l0_4 a1).f0) == 36)=(a1 == (wrap64 ((l0_4.length:Int) - 1)))):=by simpa using c41))
             (try (have c41b4:((((aZg l0_4 a1).f0) == 36) != (a1 == (IntKind.i64.wrap ((l0_4.length:Int) - 1))))=true:=by have h_:((((aZg l0_4 a1).f0) == 36) != (a1 == (wrap64 ((l0_4.length:Int) - 1))))=true:=c41;simp only [aZk];exact h_))
             clear c41
             obtain rfl:=Option.some.inj H
             go_wp2
             go_ret
             exact ⟨by first|rfl|(simp [errW_none,errW_some] <;> rfl)|(simp [*,errW_none,errW_some] <;> rfl),by repeat (first|(with_reducible first|exact HB.out|apply aZb|apply aZa|apply aZc|refine aZf ?_ GE166.out|refine aZf ?_ GE168.out)|exact HB.out)⟩
            ·
             rw [if_neg c41] at H
             have c41b0:((((aZg l0_4 a1).f0) == 36) != (a1 == (wrap64 ((l0_4.length:Int) - 1))))=false:=by simpa using c41
             (try (have c41b1:decide ((((aZg l0_4 a1).f0) == 36)=(a1 == (wrap64 ((l0_4.length:Int) - 1))))=true:=by simpa using c41))
             (try (have c41b2:((((aZg l0_4 a1).f0) == 36) == (a1 == (wrap64 ((l0_4.length:Int) - 1))))=true:=by simpa using c41))
             (try (have c41b3:((((aZg l0_4 a1).f0) == 36) != (a1 == (IntKind.i64.wrap ((l0_4.length:Int) - 1))))=false:=by have h_:((((aZg l0_4 a1).f0) == 36) != (a1 == (wrap64 ((l0_4.length:Int) - 1))))=false:=by simpa using c41;simp only [aZk];exact h_))
             clear c41
             obtain rfl:=Option.some.inj H
             go_wp2
             go_ret
             exact ⟨by first|rfl|(simp [errW_none,errW_some] <;> rfl)|(simp [*,errW_none,errW_some] <;> rfl),by repeat (first|(with_reducible first|exact HB.out|apply aZb|apply aZa|apply aZc|refine aZf ?_ GE166.out|refine aZf ?_ GE168.out)|exact HB.out)⟩
  ·
   rw [if_neg c4] at H
   exact absurd H (by simp)
 ·
  rw [if_neg c3] at H
  exact absurd H (by simp)
def berthref21_sameInts.l0:Nat→List Int→List Int→Int→Option (Bool)
  | 0,_,_,_=>none
  | k+1,x0,x1,x5=>if x5<(x0.length:Int) then (if 0≤x5 then (if x5<(x1.length:Int) then (if (rd x0 x5)=(rd x1 x5) then (berthref21_sameInts.l0 k x0 x1 (wrap64 (x5+1))) else (some false)) else (none)) else (none)) else (some true)
def berthref21_sameInts.f (k:Nat) (l0:List Int) (l1:List Int):Option (Bool):=if (l0.length:Int)=(l1.length:Int) then (berthref21_sameInts.l0 k l0 l1 0) else (some false)
theorem berthref21_sameInts.calls (k:Nat) (A0:Option Addr) (c0:Nat) (l0:List Int) (A1:Option Addr) (c1:Nat) (l1:List Int) (r:Bool) (w:World) (hr0:Kd.C (Kd.int .i64) w A0 l0.length l0) (hc0:l0.length≤c0) (hr1:Kd.C (Kd.int .i64) w A1 l1.length l1) (hc1:l1.length≤c1) (h:berthref21_sameInts.f k l0 l1=some r) :
 Calls Try.prog 57 #[.slice A0 l0.length c0,.slice A1 l1.length c1] w fun e w'=>e=.returned (.bool r)∧Drawn0 w w':=by
 have HR0:=Aside0.mk hr0
 have HC0:=Aside0.mk hc0
 clear hr0 hc0
 have HR1:=Aside0.mk hr1
 have HC1:=Aside0.mk hc1
 clear hr1 hc1
 have H:(if (l0.length:Int)=(l1.length:Int) then (berthref21_sameInts.l0 k l0 l1 0) else (some false))=some r:=h
 clear h
 by_cases c3:(l0.length:Int)=(l1.length:Int)
 ·
  rw [if_pos c3] at H
  have c3b0:((l0.length:Int) == (l1.length:Int))=true:=beq_iff_eq.mpr c3
  have c3b1:((l0.length:Int) != (l1.length:Int))=false:=bne_eq_false_iff_eq.mpr c3
  have c3b2:(l0.length == l1.length)=true:=by first|simpa using c3|(simp at c3 ⊢;omega)
  clear c3
  have H':=Aside0.mk H
  clear H
  go_enter Try.func57,Try.ntmps57
  go_wp2
  repeat (go_quiet (fail);try go_wp2)
  go_loopg [5] k (fun kq v5 w'=>∃ (x5_1:Int),v5=.int .i64 x5_1∧Aside0 (berthref21_sameInts.l0 kq l0 l1 x5_1=some r)∧Aside0 (kq≤k)∧Drawn0 w w')
  case atStart=>exact ⟨(0),(by first|rfl|(simp;done)|(simp [*];done)|(simp only [aZk];done)|(simp [aZk,Int.tdiv_eq_ediv_of_nonneg];done)),H',⟨Nat.le_refl _⟩,by repeat (first|exact Drawn0.refl _|apply Drawn0.step)⟩
  case round =>
   clear H'
   try clear c1
   try clear p2
   try clear c3
   try clear c3b0
   try clear c3b1
   try clear c3b2
   obtain ⟨x5_1,rfl,HA,HK1,⟨m1,rfl⟩⟩:=hrel
   cases gk with
   | zero=>exact absurd HA.out (by simp [berthref21_sameInts.l0])
   | succ k1 =>
    have H:=HA.out
    clear HA
    simp only [berthref21_sameInts.l0] at H
    by_cases c4:x5_1<(l0.length:Int)
    ·
     rw [if_pos c4] at H
     have c4b0:decide (x5_1<(l0.length:Int))=true:=decide_eq_true c4
     clear c4
     by_cases c5:0≤x5_1
     ·
      rw [if_pos c5] at H
      have c5b0:decide (0≤x5_1)=true:=decide_eq_true c5
      clear c5
      by_cases c6:x5_1<(l1.length:Int)
      ·
       rw [if_pos c6] at H
       have c6b0:decide (x5_1<(l1.length:Int))=true:=decide_eq_true c6
       clear c6
       by_cases c7:(rd l0 x5_1)=(rd l1 x5_1)
       ·
        rw [if_pos c7] at H
        have c7b0:((rd l0 x5_1) == (rd l1 x5_1))=true:=beq_iff_eq.mpr c7
        have c7b1:((rd l0 x5_1) != (rd l1 x5_1))=false:=bne_eq_false_iff_eq.mpr c7
        clear c7
        have H':=Aside0.mk H
        clear H
        have p175:0≤(x5_1:Int):=of_decide_eq_true (by first|(with_reducible assumption)|assumption)
        have q175:x5_1<(l0.length:Int):=of_decide_eq_true (by first|(with_reducible assumption)|assumption)
        obtain ⟨ad175,e175,hx175_0⟩:=Kd.at_int HR0.out x5_1 p175 q175
        cases e175
        replace p175:=eq_true p175
        replace q175:=eq_true q175
        have p176:0≤(x5_1:Int):=of_decide_eq_true (by first|(with_reducible assumption)|assumption)
        have q176:x5_1<(l1.length:Int):=of_decide_eq_true (by first|(with_reducible assumption)|assumption)
        obtain ⟨ad176,e176,hx176_0⟩:=Kd.at_int HR1.out x5_1 p176 q176
        cases e176
        replace p176:=eq_true p176
        replace q176:=eq_true q176
        go_wp2
        repeat (go_quiet (fail);try go_wp2)
        go_roundg k1
        case measure=>have:=HK1.out;omega
        case rel=>exact ⟨(wrap64 (x5_1+1)),(by first|rfl|(simp;done)|(simp [*];done)|(simp only [aZk];done)|(simp [aZk,Int.tdiv_eq_ediv_of_nonneg];done)),H',⟨by have:=HK1.out;omega⟩,by repeat (first|exact Drawn0.refl _|apply Drawn0.step)⟩
       ·
        rw [if_neg c7] at H
        have c7b0:((rd l0 x5_1) == (rd l1 x5_1))=false:=beq_eq_false_iff_ne.mpr c7
        have c7b1:((rd l0 x5_1) != (rd l1 x5_1))=true:=bne_iff_ne.mpr c7
        obtain rfl:=Option.some.inj H
        have p175:0≤(x5_1:Int):=of_decide_eq_true (by first|(with_reducible assumption)|assumption)
        have q175:x5_1<(l0.length:Int):=of_decide_eq_true (by first|(with_reducible assumption)|assumption)
        obtain ⟨ad175,e175,hx175_0⟩:=Kd.at_int HR0.out x5_1 p175 q175
        cases e175
        replace p175:=eq_true p175
        replace q175:=eq_true q175
        have p176:0≤(x5_1:Int):=of_decide_eq_true (by first|(with_reducible assumption)|assumption)
        have q176:x5_1<(l1.length:Int):=of_decide_eq_true (by first|(with_reducible assumption)|assumption)
        obtain ⟨ad176,e176,hx176_0⟩:=Kd.at_int HR1.out x5_1 p176 q176
        cases e176
        replace p176:=eq_true p176
        replace q176:=eq_true q176
        go_wp2
        repeat (go_quiet (fail);try go_wp2)
        go_ret
        exact ⟨by first|rfl|(simp;done)|(simp [*];done)|(simp only [aZk];done)|(simp [aZk,Int.tdiv_eq_ediv_of_nonneg];done),by repeat (first|exact Drawn0.refl _|apply Drawn0.step)⟩
      ·
       rw [if_neg c6] at H
       exact absurd H (by simp)
     ·
      rw [if_neg c5] at H
      exact absurd H (by simp)
    ·
     rw [if_neg c4] at H
     have c4b0:decide (x5_1<(l0.length:Int))=false:=decide_eq_false c4
     clear c4
     obtain rfl:=Option.some.inj H
     go_wp2
     repeat (go_quiet (fail);try go_wp2)
     go_ret
     exact ⟨by first|rfl|(simp;done)|(simp [*];done)|(simp only [aZk];done)|(simp [aZk,Int.tdiv_eq_ediv_of_nonneg];done),by repeat (first|exact Drawn0.refl _|apply Drawn0.step)⟩
 ·
  rw [if_neg c3] at H
  have c3b0:((l0.length:Int) == (l1.length:Int))=false:=beq_eq_false_iff_ne.mpr c3
  have c3b1:((l0.length:Int) != (l1.length:Int))=true:=bne_iff_ne.mpr c3
  have c3b2:(l0.length == l1.length)=false:=by first|simpa using c3|(simp at c3 ⊢;omega)
  obtain rfl:=Option.some.inj H
  go_enter Try.func57,Try.ntmps57
  go_wp2
  repeat (go_quiet (fail);try go_wp2)
  go_ret
  exact ⟨by first|rfl|(simp;done)|(simp [*];done)|(simp only [aZk];done)|(simp [aZk,Int.tdiv_eq_ediv_of_nonneg];done),by repeat (first|exact Drawn0.refl _|apply Drawn0.step)⟩
end Go.Proofs.Ytbnplhmmbnmagaa.All
