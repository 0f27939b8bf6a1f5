/- A part of the proof of AuditPrograms: walks written by a program of this session. -/
import Derived.Test.YtbnplhmmbnmagaazAGm2
import Derived.Test.YtbnplhmmbnmagaazAGm7
set_option maxHeartbeats 4000000
set_option maxRecDepth 100000
set_option linter.unusedVariables false
set_option linter.unusedSimpArgs false
namespace Go.Proofs.Ytbnplhmmbnmagaa.All
open Go.RowKit Go.Proofs.YtbnplhmmbnmagaaW.PrintWords Go.Proofs.YtbnplhmmbnmagaaW.PrintLast Go.Proofs.YtbnplhmmbnmagaaW.PrintMore
attribute [local go_sem] bZO bZM cZa bZ9 bZj bZi bZN bZL
attribute [local go_sem] Go.Proofs.YtbnplhmmbnmagaaX.binOp_leq Go.Proofs.YtbnplhmmbnmagaaX.binOp_geq Go.Proofs.YtbnplhmmbnmagaaX.binOp_gtr
mutual
def berthref21_free.j1:Nat→Int→Int→Int→Int→Int→Int→Int→List Int→List Int→Option (Int × Int × Int)
  | 0,_,_,_,_,_,_,_,_,_=>none
  | k+1,x7,x8,x9,x231000,x231001,x231002,x231003,x232000,x232001=>if x8<x9 then (some (0,0,214)) else (if x9 > 0 then (if 0≤(wrap64 (x8 - 1)) then (if (wrap64 (x8 - 1))<(x232000.length:Int) then (berthref21_free.j2 k x7 x8 (rd x232000 (wrap64 (x8 - 1))) x231000 x231001 x231002 x231003 x232000 x232001) else (none)) else (none)) else (berthref21_free.j2 k x7 x8 0 x231000 x231001 x231002 x231003 x232000 x232001))
def berthref21_free.j2:Nat→Int→Int→Int→Int→Int→Int→Int→List Int→List Int→Option (Int × Int × Int)
  | 0,_,_,_,_,_,_,_,_,_=>none
  | k+1,x7,x8,x10,x231000,x231001,x231002,x231003,x232000,x232001=>(berthref21_bitmap.f x10).bind fun t233=>(if x7=27 then (berthref21_free.j3 k x8 x10 t233 x7 (x7 == 27) x231000 x231001 x231002 x231003 x232000 x232001) else (if x7=28 then (berthref21_free.j3 k x8 x10 t233 x7 (x7 == 28) x231000 x231001 x231002 x231003 x232000 x232001) else (berthref21_free.j3 k x8 x10 t233 x7 (x7 == 29) x231000 x231001 x231002 x231003 x232000 x232001)))
def berthref21_free.j3:Nat→Int→Int→Bool→Int→Bool→Int→Int→Int→Int→List Int→List Int→Option (Int × Int × Int)
  | 0,_,_,_,_,_,_,_,_,_,_,_=>none
  | k+1,x8,x10,x11,x37,x38,x231000,x231001,x231002,x231003,x232000,x232001=>if x38=true then (if x11=true then (if 0≤(wrap64 (x8 - 2)) then (if (wrap64 (x8 - 2))<(x232000.length:Int) then (if (rd x232000 (wrap64 (x8 - 2)))=x10 then (some (2,x10,0)) else (some (0,0,215))) else (none)) else (none)) else (some (0,0,215))) else (if x37=30 then (berthref21_free.j4 k x10 x11 x37 (x37 == 30) x231000 x231001 x231002 x231003 x232000 x232001) else (if x37=33 then (berthref21_free.j4 k x10 x11 x37 (x37 == 33) x231000 x231001 x231002 x231003 x232000 x232001) else (berthref21_free.j4 k x10 x11 x37 (x37 == 34) x231000 x231001 x231002 x231003 x232000 x232001)))
def berthref21_free.j4:Nat→Int→Bool→Int→Bool→Int→Int→Int→Int→List Int→List Int→Option (Int × Int × Int)
  | 0,_,_,_,_,_,_,_,_,_,_=>none
  | k+1,x10,x11,x37,x55,x231000,x231001,x231002,x231003,x232000,x232001=>if x55=true then (if x11=true then (some (1,x10,0)) else (some (0,0,215))) else (if x37=31 then (if x11=true then (some (1,0,0)) else (some (0,0,215))) else (if x37=32 then (if 0≤x231001 then (if x231001<(x232001.length:Int) then (if (rd x232001 x231001)=0 then (some (0,0,217)) else (some (0,rd x232001 x231001,0))) else (none)) else (none)) else (some (1,0,0))))
def berthref21_free.j0:Nat→Int→Int→Int→Int→Bool→Int→Int→Int→Int→List Int→List Int→Option (Int × Int × Int)
  | 0,_,_,_,_,_,_,_,_,_,_,_=>none
  | k+1,x7,x8,x9,x17,x18,x231000,x231001,x231002,x231003,x232000,x232001=>if x18=true then (berthref21_free.j1 k x7 x8 2 x231000 x231001 x231002 x231003 x232000 x232001) else (if x17=32 then (berthref21_free.j1 k x7 x8 0 x231000 x231001 x231002 x231003 x232000 x232001) else (berthref21_free.j1 k x7 x8 x9 x231000 x231001 x231002 x231003 x232000 x232001))
end
def berthref21_free.f (k:Nat) (a0_0:Int) (a0_1:Int) (a0_2:Int) (a0_3:Int) (l1_0:List Int) (l1_1:List Int):Option (Int × Int × Int):=if a0_0=27 then (berthref21_free.j0 k a0_0 (l1_0.length:Int) 1 a0_0 (a0_0 == 27) a0_0 a0_1 a0_2 a0_3 l1_0 l1_1) else (if a0_0=28 then (berthref21_free.j0 k a0_0 (l1_0.length:Int) 1 a0_0 (a0_0 == 28) a0_0 a0_1 a0_2 a0_3 l1_0 l1_1) else (berthref21_free.j0 k a0_0 (l1_0.length:Int) 1 a0_0 (a0_0 == 29) a0_0 a0_1 a0_2 a0_3 l1_0 l1_1))
theorem berthref21_free.calls (k:Nat) (a0_0:Int) (a0_1:Int) (a0_2:Int) (a0_3:Int) (A1_0:Option Addr) (c1_0:Nat) (l1_0:List Int) (A1_1:Option Addr) (c1_1:Nat) (l1_1:List Int) (r1:Int) (r2:Int) (r3:Int) (w:World) (hr1_0:Kd.C (Kd.int .i64) w A1_0 l1_0.length l1_0) (hc1_0:l1_0.length≤c1_0) (hr1_1:Kd.C (Kd.int .i64) w A1_1 l1_1.length l1_1) (hc1_1:l1_1.length≤c1_1) (h:berthref21_free.f k a0_0 a0_1 a0_2 a0_3 l1_0 l1_1=some (r1,r2,r3)) :
 Calls Try.prog 98 #[.agg #[.int .i64 a0_0,.int .i64 a0_1,.int .i64 a0_2,.int .i64 a0_3],.agg #[.slice A1_0 l1_0.length c1_0,.slice A1_1 l1_1.length c1_1]] w fun e w'=>e=.returned (.tuple #[.int .i64 r1,.int .i64 r2,.int .i64 r3])∧Below w.heap.size w w':=by
 have hu66:=Try.underlying66
 have hu94:=Try.underlying94
 have HR1_0:=Aside0.mk hr1_0
 have HC1_0:=Aside0.mk hc1_0
 clear hr1_0 hc1_0
 have HR1_1:=Aside0.mk hr1_1
 have HC1_1:=Aside0.mk hc1_1
 clear hr1_1 hc1_1
 have HB:=Aside0.mk (Below.refl w.heap.size w)
 have H:(if a0_0=27 then (berthref21_free.j0 k a0_0 (l1_0.length:Int) 1 a0_0 (a0_0 == 27) a0_0 a0_1 a0_2 a0_3 l1_0 l1_1) else (if a0_0=28 then (berthref21_free.j0 k a0_0 (l1_0.length:Int) 1 a0_0 (a0_0 == 28) a0_0 a0_1 a0_2 a0_3 l1_0 l1_1) else (berthref21_free.j0 k a0_0 (l1_0.length:Int) 1 a0_0 (a0_0 == 29) a0_0 a0_1 a0_2 a0_3 l1_0 l1_1)))=some (r1,r2,r3):=h
 clear h
 have HC3:=Aside0.mk H
 clear H
 go_enter Try.func98,Try.ntmps98
 go_upto_block 0 with (first|((with_reducible refine aZr (N:=2) rfl ?_);refine aZy ?hg (N:=2) ?hd (cs:=#[.int .i64 a0_0,.int .i64 a0_1,.int .i64 a0_2,.int .i64 a0_3]) (t:=66) ?hr ?_;(case hd=>rfl);(case hg=>rfl);(case hr=>first|(go_simp;done)|(go_simp;rfl));intro gb230 hg w4 hbox hb;have n0_:=Aside0.mk (aZo (by repeat (first|(with_reducible first|exact HB.out|apply aZb|apply aZa|apply aZc)|exact HB.out)) hb);have n1_:=Aside0.mk (hbox);have n2_:=Aside0.mk ((by rw [hg];exact (aZl (by repeat (first|(with_reducible first|exact HB.out|apply aZb|apply aZa|apply aZc)|exact HB.out))):w.heap.size≤gb230));have n3_:=Aside0.mk ((by rw [hg];exact (aZl (by repeat (first|(with_reducible first|exact HB.out|apply aZb|apply aZa|apply aZc)|exact HB.out))):w.heap.size≤gb230));clear HB;have HB:=n0_;have BK230:=n1_;have GW230:=n2_;have GE230:=n3_;clear n0_ n1_ n2_ n3_;clear hb hbox hg)|((with_reducible refine aZr (N:=3) rfl ?_);refine aZy ?hg (N:=3) ?hd (cs:=#[.slice A1_0 l1_0.length c1_0,.slice A1_1 l1_1.length c1_1]) (t:=94) ?hr ?_;(case hd=>rfl);(case hg=>rfl);(case hr=>first|(go_simp;done)|(go_simp;rfl));intro gb231 hg w5 hbox hb;have n0_:=Aside0.mk (aZN (g:=gb230) (o:=.cells #[.int .i64 a0_0,.int .i64 a0_1,.int .i64 a0_2,.int .i64 a0_3] 66 (0,0)) (by (with_reducible repeat (first|refine aZi ?_ _|refine aZj ?_|refine aZh ?_ _));exact BK230.out) hb);have n1_:=Aside0.mk (aZo (by repeat (first|(with_reducible first|exact HB.out|apply aZb|apply aZa|apply aZc|refine aZf ?_ GE230.out)|exact HB.out)) hb);have n2_:=Aside0.mk (hbox);have n3_:=Aside0.mk ((by rw [hg];exact (aZl (by repeat (first|(with_reducible first|exact HB.out|apply aZb|apply aZa|apply aZc|refine aZf ?_ GE230.out)|exact HB.out))):w.heap.size≤gb231));have n4_:=Aside0.mk ((by rw [hg];exact (aZl (by repeat (first|(with_reducible first|exact HB.out|apply aZb|apply aZa|apply aZc|refine aZf ?_ GE230.out)|exact HB.out))):w.heap.size≤gb231));have n5_:=Aside0.mk ((by rw [hg];exact Nat.ne_of_lt (aZn (g:=gb230) (o:=.cells #[.int .i64 a0_0,.int .i64 a0_1,.int .i64 a0_2,.int .i64 a0_3] 66 (0,0)) (by (with_reducible repeat (first|refine aZi ?_ _|refine aZj ?_|refine aZh ?_ _));exact BK230.out)):gb230≠gb231));have n6_:=Aside0.mk ((by rw [hg];exact Nat.ne_of_gt (aZn (g:=gb230) (o:=.cells #[.int .i64 a0_0,.int .i64 a0_1,.int .i64 a0_2,.int .i64 a0_3] 66 (0,0)) (by (with_reducible repeat (first|refine aZi ?_ _|refine aZj ?_|refine aZh ?_ _));exact BK230.out)):gb231≠gb230));clear BK230;clear HB;have BK230:=n0_;have HB:=n1_;have BK231:=n2_;have GW231:=n3_;have GE231:=n4_;have NB230_231:=n5_;have NB231_230:=n6_;clear n0_ n1_ n2_ n3_ n4_ n5_ n6_;clear hb hbox hg;have hnb6:=NB230_231.out;have hnc6:=NB231_230.out;have hcz7_0:w5.cell? ⟨gb230,0,none⟩=some (.int .i64 a0_0):=(aZd BK230.out 0).trans rfl;have hcz7_1:w5.cell? ⟨gb230,1,none⟩=some (.int .i64 a0_1):=(aZd BK230.out 1).trans rfl;have hcz7_2:w5.cell? ⟨gb230,2,none⟩=some (.int .i64 a0_2):=(aZd BK230.out 2).trans rfl;have hcz7_3:w5.cell? ⟨gb230,3,none⟩=some (.int .i64 a0_3):=(aZd BK230.out 3).trans rfl;have hfz7_0:=aZe BK230.out 0;have hfz7_1:=aZe BK230.out 1;have hfz7_2:=aZe BK230.out 2;have hfz7_3:=aZe BK230.out 3;have hcz8_0:w5.cell? ⟨gb231,0,none⟩=some (.slice A1_0 l1_0.length c1_0):=(aZd BK231.out 0).trans rfl;have hcz8_1:w5.cell? ⟨gb231,1,none⟩=some (.slice A1_1 l1_1.length c1_1):=(aZd BK231.out 1).trans rfl;have hfz8_0:=aZe BK231.out 0;have hfz8_1:=aZe BK231.out 1))
 repeat (go_quiet (first|((with_reducible refine aZr (N:=2) rfl ?_);refine aZy ?hg (N:=2) ?hd (cs:=#[.int .i64 a0_0,.int .i64 a0_1,.int .i64 a0_2,.int .i64 a0_3]) (t:=66) ?hr ?_;(case hd=>rfl);(case hg=>rfl);(case hr=>first|(go_simp;done)|(go_simp;rfl));intro gb230 hg w4 hbox hb;have n0_:=Aside0.mk (aZo (by repeat (first|(with_reducible first|exact HB.out|apply aZb|apply aZa|apply aZc)|exact HB.out)) hb);have n1_:=Aside0.mk (hbox);have n2_:=Aside0.mk ((by rw [hg];exact (aZl (by repeat (first|(with_reducible first|exact HB.out|apply aZb|apply aZa|apply aZc)|exact HB.out))):w.heap.size≤gb230));have n3_:=Aside0.mk ((by rw [hg];exact (aZl (by repeat (first|(with_reducible first|exact HB.out|apply aZb|apply aZa|apply aZc)|exact HB.out))):w.heap.size≤gb230));clear HB;have HB:=n0_;have BK230:=n1_;have GW230:=n2_;have GE230:=n3_;clear n0_ n1_ n2_ n3_;clear hb hbox hg)|((with_reducible refine aZr (N:=3) rfl ?_);refine aZy ?hg (N:=3) ?hd (cs:=#[.slice A1_0 l1_0.length c1_0,.slice A1_1 l1_1.length c1_1]) (t:=94) ?hr ?_;(case hd=>rfl);(case hg=>rfl);(case hr=>first|(go_simp;done)|(go_simp;rfl));intro gb231 hg w5 hbox hb;have n0_:=Aside0.mk (aZN (g:=gb230) (o:=.cells #[.int .i64 a0_0,.int .i64 a0_1,.int .i64 a0_2,.int .i64 a0_3] 66 (0,0)) (by (with_reducible repeat (first|refine aZi ?_ _|refine aZj ?_|refine aZh ?_ _));exact BK230.out) hb);have n1_:=Aside0.mk (aZo (by repeat (first|(with_reducible first|exact HB.out|apply aZb|apply aZa|apply aZc|refine aZf ?_ GE230.out)|exact HB.out)) hb);have n2_:=Aside0.mk (hbox);have n3_:=Aside0.mk ((by rw [hg];exact (aZl (by repeat (first|(with_reducible first|exact HB.out|apply aZb|apply aZa|apply aZc|refine aZf ?_ GE230.out)|exact HB.out))):w.heap.size≤gb231));have n4_:=Aside0.mk ((by rw [hg];exact (aZl (by repeat (first|(with_reducible first|exact HB.out|apply aZb|apply aZa|apply aZc|refine aZf ?_ GE230.out)|exact HB.out))):w.heap.size≤gb231));have n5_:=Aside0.mk ((by rw [hg];exact Nat.ne_of_lt (aZn (g:=gb230) (o:=.cells #[.int .i64 a0_0,.int .i64 a0_1,.int .i64 a0_2,.int .i64 a0_3] 66 (0,0)) (by (with_reducible repeat (first|refine aZi ?_ _|refine aZj ?_|refine aZh ?_ _));exact BK230.out)):gb230≠gb231));have n6_:=Aside0.mk ((by rw [hg];exact Nat.ne_of_gt (aZn (g:=gb230) (o:=.cells #[.int .i64 a0_0,.int .i64 a0_1,.int .i64 a0_2,.int .i64 a0_3] 66 (0,0)) (by (with_reducible repeat (first|refine aZi ?_ _|refine aZj ?_|refine aZh ?_ _));exact BK230.out)):gb231≠gb230));clear BK230;clear HB;have BK230:=n0_;have HB:=n1_;have BK231:=n2_;have GW231:=n3_;have GE231:=n4_;have NB230_231:=n5_;have NB231_230:=n6_;clear n0_ n1_ n2_ n3_ n4_ n5_ n6_;clear hb hbox hg;have hnb6:=NB230_231.out;have hnc6:=NB231_230.out;have hcz7_0:w5.cell? ⟨gb230,0,none⟩=some (.int .i64 a0_0):=(aZd BK230.out 0).trans rfl;have hcz7_1:w5.cell? ⟨gb230,1,none⟩=some (.int .i64 a0_1):=(aZd BK230.out 1).trans rfl;have hcz7_2:w5.cell? ⟨gb230,2,none⟩=some (.int .i64 a0_2):=(aZd BK230.out 2).trans rfl;have hcz7_3:w5.cell? ⟨gb230,3,none⟩=some (.int .i64 a0_3):=(aZd BK230.out 3).trans rfl;have hfz7_0:=aZe BK230.out 0;have hfz7_1:=aZe BK230.out 1;have hfz7_2:=aZe BK230.out 2;have hfz7_3:=aZe BK230.out 3;have hcz8_0:w5.cell? ⟨gb231,0,none⟩=some (.slice A1_0 l1_0.length c1_0):=(aZd BK231.out 0).trans rfl;have hcz8_1:w5.cell? ⟨gb231,1,none⟩=some (.slice A1_1 l1_1.length c1_1):=(aZd BK231.out 1).trans rfl;have hfz8_0:=aZe BK231.out 0;have hfz8_1:=aZe BK231.out 1));go_upto_block 0 with (first|((with_reducible refine aZr (N:=2) rfl ?_);refine aZy ?hg (N:=2) ?hd (cs:=#[.int .i64 a0_0,.int .i64 a0_1,.int .i64 a0_2,.int .i64 a0_3]) (t:=66) ?hr ?_;(case hd=>rfl);(case hg=>rfl);(case hr=>first|(go_simp;done)|(go_simp;rfl));intro gb230 hg w4 hbox hb;have n0_:=Aside0.mk (aZo (by repeat (first|(with_reducible first|exact HB.out|apply aZb|apply aZa|apply aZc)|exact HB.out)) hb);have n1_:=Aside0.mk (hbox);have n2_:=Aside0.mk ((by rw [hg];exact (aZl (by repeat (first|(with_reducible first|exact HB.out|apply aZb|apply aZa|apply aZc)|exact HB.out))):w.heap.size≤gb230));have n3_:=Aside0.mk ((by rw [hg];exact (aZl (by repeat (first|(with_reducible first|exact HB.out|apply aZb|apply aZa|apply aZc)|exact HB.out))):w.heap.size≤gb230));clear HB;have HB:=n0_;have BK230:=n1_;have GW230:=n2_;have GE230:=n3_;clear n0_ n1_ n2_ n3_;clear hb hbox hg)|((with_reducible refine aZr (N:=3) rfl ?_);refine aZy ?hg (N:=3) ?hd (cs:=#[.slice A1_0 l1_0.length c1_0,.slice A1_1 l1_1.length c1_1]) (t:=94) ?hr ?_;(case hd=>rfl);(case hg=>rfl);(case hr=>first|(go_simp;done)|(go_simp;rfl));intro gb231 hg w5 hbox hb;have n0_:=Aside0.mk (aZN (g:=gb230) (o:=.cells #[.int .i64 a0_0,.int .i64 a0_1,.int .i64 a0_2,.int .i64 a0_3] 66 (0,0)) (by (with_reducible repeat (first|refine aZi ?_ _|refine aZj ?_|refine aZh ?_ _));exact BK230.out) hb);have n1_:=Aside0.mk (aZo (by repeat (first|(with_reducible first|exact HB.out|apply aZb|apply aZa|apply aZc|refine aZf ?_ GE230.out)|exact HB.out)) hb);have n2_:=Aside0.mk (hbox);have n3_:=Aside0.mk ((by rw [hg];exact (aZl (by repeat (first|(with_reducible first|exact HB.out|apply aZb|apply aZa|apply aZc|refine aZf ?_ GE230.out)|exact HB.out))):w.heap.size≤gb231));have n4_:=Aside0.mk ((by rw [hg];exact (aZl (by repeat (first|(with_reducible first|exact HB.out|apply aZb|apply aZa|apply aZc|refine aZf ?_ GE230.out)|exact HB.out))):w.heap.size≤gb231));have n5_:=Aside0.mk ((by rw [hg];exact Nat.ne_of_lt (aZn (g:=gb230) (o:=.cells #[.int .i64 a0_0,.int .i64 a0_1,.int .i64 a0_2,.int .i64 a0_3] 66 (0,0)) (by (with_reducible repeat (first|refine aZi ?_ _|refine aZj ?_|refine aZh ?_ _));exact BK230.out)):gb230≠gb231));have n6_:=Aside0.mk ((by rw [hg];exact Nat.ne_of_gt (aZn (g:=gb230) (o:=.cells #[.int .i64 a0_0,.int .i64 a0_1,.int .i64 a0_2,.int .i64 a0_3] 66 (0,0)) (by (with_reducible repeat (first|refine aZi ?_ _|refine aZj ?_|refine aZh ?_ _));exact BK230.out)):gb231≠gb230));clear BK230;clear HB;have BK230:=n0_;have HB:=n1_;have BK231:=n2_;have GW231:=n3_;have GE231:=n4_;have NB230_231:=n5_;have NB231_230:=n6_;clear n0_ n1_ n2_ n3_ n4_ n5_ n6_;clear hb hbox hg;have hnb6:=NB230_231.out;have hnc6:=NB231_230.out;have hcz7_0:w5.cell? ⟨gb230,0,none⟩=some (.int .i64 a0_0):=(aZd BK230.out 0).trans rfl;have hcz7_1:w5.cell? ⟨gb230,1,none⟩=some (.int .i64 a0_1):=(aZd BK230.out 1).trans rfl;have hcz7_2:w5.cell? ⟨gb230,2,none⟩=some (.int .i64 a0_2):=(aZd BK230.out 2).trans rfl;have hcz7_3:w5.cell? ⟨gb230,3,none⟩=some (.int .i64 a0_3):=(aZd BK230.out 3).trans rfl;have hfz7_0:=aZe BK230.out 0;have hfz7_1:=aZe BK230.out 1;have hfz7_2:=aZe BK230.out 2;have hfz7_3:=aZe BK230.out 3;have hcz8_0:w5.cell? ⟨gb231,0,none⟩=some (.slice A1_0 l1_0.length c1_0):=(aZd BK231.out 0).trans rfl;have hcz8_1:w5.cell? ⟨gb231,1,none⟩=some (.slice A1_1 l1_1.length c1_1):=(aZd BK231.out 1).trans rfl;have hfz8_0:=aZe BK231.out 0;have hfz8_1:=aZe BK231.out 1)))
 (try simp only [Act.put,List.setIfInBounds_toArray,List.set_cons_zero,List.set_cons_succ])
 go_cut [9] (fun v9 wc=>∃ (kq:Nat) (x9_2:Int),v9=.int .i64 x9_2∧Aside0 (berthref21_free.j1 kq a0_0 (l1_0.length:Int) x9_2 a0_0 a0_1 a0_2 a0_3 l1_0 l1_1=some (r1,r2,r3))∧Aside0 (kq≤k)∧Aside0 (wc.heap[gb230]?=some (.cells #[.int .i64 a0_0,.int .i64 a0_1,.int .i64 a0_2,.int .i64 a0_3] 66 (0,0)))∧Aside0 (wc.heap[gb231]?=some (.cells #[(.slice A1_0 l1_0.length c1_0),(.slice A1_1 l1_1.length c1_1)] 94 (0,0)))∧Aside0 (Below w.heap.size w wc))
 case first =>
  have H:=HC3.out
  clear HC3
  have HC9:=Aside0.mk H
  clear H
  go_upto_if 18 with (fail)
  repeat (go_quiet (fail);go_upto_if 18 with (fail))
  go_cut [18] (fun v18 wc=>∃ (kq:Nat) (x18_8:Bool),v18=.bool x18_8∧Aside0 (berthref21_free.j0 kq a0_0 (l1_0.length:Int) 1 a0_0 x18_8 a0_0 a0_1 a0_2 a0_3 l1_0 l1_1=some (r1,r2,r3))∧Aside0 (kq≤k)∧Aside0 (wc.heap[gb230]?=some (.cells #[.int .i64 a0_0,.int .i64 a0_1,.int .i64 a0_2,.int .i64 a0_3] 66 (0,0)))∧Aside0 (wc.heap[gb231]?=some (.cells #[(.slice A1_0 l1_0.length c1_0),(.slice A1_1 l1_1.length c1_1)] 94 (0,0)))∧Aside0 (Below w.heap.size w wc))
  case first =>
   have H:=HC9.out
   clear HC9
   by_cases c10:a0_0=27
   ·
    rw [if_pos c10] at H
    have c10b0:(a0_0 == 27)=true:=beq_iff_eq.mpr c10
    have c10b1:(a0_0 != 27)=false:=bne_eq_false_iff_eq.mpr c10
    clear c10
    (first|rw [c10b0]|(simp only [aZk,aZP];rw [c10b0])|skip)
    have H':=Aside0.mk H
    clear H
    go_wp2
    repeat (go_quiet (fail);try go_wp2)
    go_meet
    case rel=>exact ⟨_,((a0_0 == 27)),(by first|rfl|(simp;done)|(simp [*];done)|(simp only [aZk];done)|(simp [aZk,Int.tdiv_eq_ediv_of_nonneg];done)),H',⟨by first|omega|exact Nat.le_refl _⟩,⟨by (with_reducible repeat (first|refine aZi ?_ _|refine aZj ?_|refine aZh ?_ _));exact BK230.out⟩,⟨by (with_reducible repeat (first|refine aZi ?_ _|refine aZj ?_|refine aZh ?_ _));exact BK231.out⟩,⟨by repeat (first|(with_reducible first|exact HB.out|apply aZb|apply aZa|apply aZc|refine aZf ?_ GE230.out|refine aZf ?_ GE231.out)|exact HB.out)⟩⟩
   ·
    rw [if_neg c10] at H
    have c10b0:(a0_0 == 27)=false:=beq_eq_false_iff_ne.mpr c10
    have c10b1:(a0_0 != 27)=true:=bne_iff_ne.mpr c10
    (first|rw [c10b0]|(simp only [aZk,aZP];rw [c10b0])|skip)
    by_cases c11:a0_0=28
    ·
     rw [if_pos c11] at H
     have c11b0:(a0_0 == 28)=true:=beq_iff_eq.mpr c11
     have c11b1:(a0_0 != 28)=false:=bne_eq_false_iff_eq.mpr c11
     clear c11
     have H':=Aside0.mk H
     clear H
     go_wp2
     repeat (go_quiet (fail);try go_wp2)
     go_meet
     case rel=>exact ⟨_,((a0_0 == 28)),(by first|rfl|(simp;done)|(simp [*];done)|(simp only [aZk];done)|(simp [aZk,Int.tdiv_eq_ediv_of_nonneg];done)),H',⟨by first|omega|exact Nat.le_refl _⟩,⟨by (with_reducible repeat (first|refine aZi ?_ _|refine aZj ?_|refine aZh ?_ _));exact BK230.out⟩,⟨by (with_reducible repeat (first|refine aZi ?_ _|refine aZj ?_|refine aZh ?_ _));exact BK231.out⟩,⟨by repeat (first|(with_reducible first|exact HB.out|apply aZb|apply aZa|apply aZc|refine aZf ?_ GE230.out|refine aZf ?_ GE231.out)|exact HB.out)⟩⟩
    ·
     rw [if_neg c11] at H
     have c11b0:(a0_0 == 28)=false:=beq_eq_false_iff_ne.mpr c11
     have c11b1:(a0_0 != 28)=true:=bne_iff_ne.mpr c11
     have H':=Aside0.mk H
     clear H
     go_wp2
     repeat (go_quiet (fail);try go_wp2)
     go_meet
     case rel=>exact ⟨_,((a0_0 == 29)),(by first|rfl|(simp;done)|(simp [*];done)|(simp only [aZk];done)|(simp [aZk,Int.tdiv_eq_ediv_of_nonneg];done)),H',⟨by first|omega|exact Nat.le_refl _⟩,⟨by (with_reducible repeat (first|refine aZi ?_ _|refine aZj ?_|refine aZh ?_ _));exact BK230.out⟩,⟨by (with_reducible repeat (first|refine aZi ?_ _|refine aZj ?_|refine aZh ?_ _));exact BK231.out⟩,⟨by repeat (first|(with_reducible first|exact HB.out|apply aZb|apply aZa|apply aZc|refine aZf ?_ GE230.out|refine aZf ?_ GE231.out)|exact HB.out)⟩⟩
  case rest =>
   clear HC9
   try clear c1
   try clear p2
   try clear c6
   try clear c9
   try clear c10
   try clear c10b0
   try clear c10b1
   try clear c11
   try clear c11b0
   try clear c11b1
   try clear hcz7_0
   try clear hcz7_1
   try clear hcz7_2
   try clear hcz7_3
   try clear hcz8_0
   try clear hcz8_1
   try clear hfz7_0
   try clear hfz7_1
   try clear hfz7_2
   try clear hfz7_3
   try clear hfz8_0
   try clear hfz8_1
   obtain ⟨kq,x18_8,rfl,HA,HJ8,BK230,BK231,HB⟩:=hcut
   cases kq with
   | zero=>exact absurd HA.out (by simp [berthref21_free.j0])
   | succ kj8 =>
    have H:=HA.out
    clear HA
    simp only [berthref21_free.j0] at H
    by_cases c12:x18_8=true
    ·
     subst c12
     have H1:(berthref21_free.j1 kj8 a0_0 (l1_0.length:Int) 2 a0_0 a0_1 a0_2 a0_3 l1_0 l1_1)=some (r1,r2,r3):=by rw [if_pos rfl] at H;exact H
     clear H
     have H:=H1
     clear H1
     have H':=Aside0.mk H
     clear H
     go_wp2
     repeat (go_quiet (fail);try go_wp2)
     go_meet
     case rel=>exact ⟨_,(2),(by first|rfl|(simp;done)|(simp [*];done)|(simp only [aZk];done)|(simp [aZk,Int.tdiv_eq_ediv_of_nonneg];done)),H',⟨by have:=HJ8.out;first|omega|exact Nat.le_refl _⟩,⟨by (with_reducible repeat (first|refine aZi ?_ _|refine aZj ?_|refine aZh ?_ _));exact BK230.out⟩,⟨by (with_reducible repeat (first|refine aZi ?_ _|refine aZj ?_|refine aZh ?_ _));exact BK231.out⟩,⟨by repeat (first|(with_reducible first|exact HB.out|apply aZb|apply aZa|apply aZc|refine aZf ?_ GE230.out|refine aZf ?_ GE231.out)|exact HB.out)⟩⟩
    ·
     replace c12:=Bool.eq_false_iff.mpr c12
     subst c12
     have H1:(if a0_0=32 then (berthref21_free.j1 kj8 a0_0 (l1_0.length:Int) 0 a0_0 a0_1 a0_2 a0_3 l1_0 l1_1) else (berthref21_free.j1 kj8 a0_0 (l1_0.length:Int) 1 a0_0 a0_1 a0_2 a0_3 l1_0 l1_1))=some (r1,r2,r3):=by rw [if_neg (show ¬(false=true) by decide)] at H;exact H
     clear H
     have H:=H1
     clear H1
     by_cases c13:a0_0=32
     ·
      rw [if_pos c13] at H
      have c13b0:(a0_0 == 32)=true:=beq_iff_eq.mpr c13
      have c13b1:(a0_0 != 32)=false:=bne_eq_false_iff_eq.mpr c13
      clear c13
      have H':=Aside0.mk H
      clear H
      go_wp2
      repeat (go_quiet (fail);try go_wp2)
      go_meet
      case rel=>exact ⟨_,(0),(by first|rfl|(simp;done)|(simp [*];done)|(simp only [aZk];done)|(simp [aZk,Int.tdiv_eq_ediv_of_nonneg];done)),H',⟨by have:=HJ8.out;first|omega|exact Nat.le_refl _⟩,⟨by (with_reducible repeat (first|refine aZi ?_ _|refine aZj ?_|refine aZh ?_ _));exact BK230.out⟩,⟨by (with_reducible repeat (first|refine aZi ?_ _|refine aZj ?_|refine aZh ?_ _));exact BK231.out⟩,⟨by repeat (first|(with_reducible first|exact HB.out|apply aZb|apply aZa|apply aZc|refine aZf ?_ GE230.out|refine aZf ?_ GE231.out)|exact HB.out)⟩⟩
     ·
      rw [if_neg c13] at H
      have c13b0:(a0_0 == 32)=false:=beq_eq_false_iff_ne.mpr c13
      have c13b1:(a0_0 != 32)=true:=bne_iff_ne.mpr c13
      have H':=Aside0.mk H
      clear H
      go_wp2
      repeat (go_quiet (fail);try go_wp2)
      go_meet
      case rel=>exact ⟨_,(1),(by first|rfl|(simp;done)|(simp [*];done)|(simp only [aZk];done)|(simp [aZk,Int.tdiv_eq_ediv_of_nonneg];done)),H',⟨by have:=HJ8.out;first|omega|exact Nat.le_refl _⟩,⟨by (with_reducible repeat (first|refine aZi ?_ _|refine aZj ?_|refine aZh ?_ _));exact BK230.out⟩,⟨by (with_reducible repeat (first|refine aZi ?_ _|refine aZj ?_|refine aZh ?_ _));exact BK231.out⟩,⟨by repeat (first|(with_reducible first|exact HB.out|apply aZb|apply aZa|apply aZc|refine aZf ?_ GE230.out|refine aZf ?_ GE231.out)|exact HB.out)⟩⟩
 case rest =>
  clear HC3
  try clear c1
  try clear p2
  try clear c6
  try clear c9
  try clear c10
  try clear c10b0
  try clear c10b1
  try clear c11
  try clear c11b0
  try clear c11b1
  try clear c12
  try clear c13
  try clear c13b0
  try clear c13b1
  try clear hcz7_0
  try clear hcz7_1
  try clear hcz7_2
  try clear hcz7_3
  try clear hcz8_0
  try clear hcz8_1
  try clear hfz7_0
  try clear hfz7_1
  try clear hfz7_2
  try clear hfz7_3
  try clear hfz8_0
  try clear hfz8_1
  try clear p2
  obtain ⟨kq,x9_2,rfl,HA,HJ2,BK230,BK231,HB⟩:=hcut
  cases kq with
  | zero=>exact absurd HA.out (by simp [berthref21_free.j1])
  | succ kj2 =>
   have H:=HA.out
   clear HA
   simp only [berthref21_free.j1] at H
   by_cases c14:(l1_0.length:Int)<x9_2
   ·
    rw [if_pos c14] at H
    have c14b0:decide ((l1_0.length:Int)<x9_2)=true:=decide_eq_true c14
    clear c14
    simp only [Option.some.injEq,Prod.mk.injEq] at H
    obtain ⟨rfl,rfl,rfl⟩:=H
    go_wp2
    repeat (go_quiet (fail);try go_wp2)
    go_ret3
    exact ⟨by first|rfl|(simp [errW_none,errW_some] <;> rfl)|(simp [*,errW_none,errW_some] <;> rfl),by repeat (first|(with_reducible first|exact HB.out|apply aZb|apply aZa|apply aZc|refine aZf ?_ GE230.out|refine aZf ?_ GE231.out)|exact HB.out)⟩
   ·
    rw [if_neg c14] at H
    have c14b0:decide ((l1_0.length:Int)<x9_2)=false:=decide_eq_false c14
    clear c14
    have HC15:=Aside0.mk H
    clear H
    go_upto_if 28 with (fail)
    repeat (go_quiet (fail);go_upto_if 28 with (fail))
    go_cut [10] (fun v10 wc=>∃ (kq:Nat) (x10_14:Int),v10=.int .i64 x10_14∧Aside0 (berthref21_free.j2 kq a0_0 (l1_0.length:Int) x10_14 a0_0 a0_1 a0_2 a0_3 l1_0 l1_1=some (r1,r2,r3))∧Aside0 (kq≤kj2)∧Aside0 (wc.heap[gb230]?=some (.cells #[.int .i64 a0_0,.int .i64 a0_1,.int .i64 a0_2,.int .i64 a0_3] 66 (0,0)))∧Aside0 (wc.heap[gb231]?=some (.cells #[(.slice A1_0 l1_0.length c1_0),(.slice A1_1 l1_1.length c1_1)] 94 (0,0)))∧Aside0 (Below w.heap.size w wc))
    case first =>
     have H:=HC15.out
     clear HC15
     by_cases c16:x9_2 > 0
     ·
      rw [if_pos c16] at H
      have c16b0:decide (0<x9_2)=true:=decide_eq_true c16
      clear c16
      (first|rw [c16b0]|(simp only [aZk,aZP];rw [c16b0])|skip)
      obtain ⟨ji17,hji17⟩:∃ j_:Int,(wrap64 ((l1_0.length:Int) - 1))=j_:=⟨_,rfl⟩
      replace H:(if 0≤(ji17) then (if (ji17)<(l1_0.length:Int) then (berthref21_free.j2 kj2 a0_0 (l1_0.length:Int) (rd l1_0 (ji17)) a0_0 a0_1 a0_2 a0_3 l1_0 l1_1) else (none)) else (none))=some (r1,r2,r3):=by first|(rw [hji17] at H;exact H)|(simp only [hji17] at H ⊢;exact H)
      have hji17w:(IntKind.i64.wrap ((l1_0.length:Int) - 1))=ji17:=(aZk _).trans hji17
      by_cases c18:0≤(ji17)
      ·
       rw [if_pos c18] at H
       have c18b0:decide (0≤(ji17))=true:=decide_eq_true c18
       clear c18
       by_cases c19:(ji17)<(l1_0.length:Int)
       ·
        rw [if_pos c19] at H
        have c19b0:decide ((ji17)<(l1_0.length:Int))=true:=decide_eq_true c19
        clear c19
        have H':=Aside0.mk H
        clear H
        have hnb20:=NB231_230.out
        have hnc20:=NB230_231.out
        have hcz21_0:wc.cell? ⟨gb231,0,none⟩=some (.slice A1_0 l1_0.length c1_0):=(aZd BK231.out 0).trans rfl
        have hcz21_1:wc.cell? ⟨gb231,1,none⟩=some (.slice A1_1 l1_1.length c1_1):=(aZd BK231.out 1).trans rfl
        have hfz21_0:=aZe BK231.out 0
        have hfz21_1:=aZe BK231.out 1
        have p232:0≤((ji17):Int):=of_decide_eq_true (by first|(with_reducible assumption)|assumption)
        have q232:(ji17)<(l1_0.length:Int):=of_decide_eq_true (by first|(with_reducible assumption)|assumption)
        obtain ⟨ad232,e232,hx232_0⟩:=Kd.at_int HR1_0.out (ji17) p232 q232
        cases e232
        replace hx232_0:=(HB.out.cell (World.block_lt_of_cell? w _ hx232_0)).trans hx232_0
        replace p232:=eq_true p232
        replace q232:=eq_true q232
        go_wp2
        repeat (go_quiet (fail);try go_wp2)
        go_meet
        case rel=>exact ⟨_,(rd l1_0 (ji17)),(by first|rfl|(simp;done)|(simp only [←hji17] <;> (first|rfl|simp))|(simp [*];done)|(simp only [aZk];done)|(simp [aZk,Int.tdiv_eq_ediv_of_nonneg];done)),H',⟨by have:=HJ2.out;first|omega|exact Nat.le_refl _⟩,⟨by (with_reducible repeat (first|refine aZi ?_ _|refine aZj ?_|refine aZh ?_ _));exact BK230.out⟩,⟨by (with_reducible repeat (first|refine aZi ?_ _|refine aZj ?_|refine aZh ?_ _));exact BK231.out⟩,⟨by repeat (first|(with_reducible first|exact HB.out|apply aZb|apply aZa|apply aZc|refine aZf ?_ GE230.out|refine aZf ?_ GE231.out)|exact HB.out)⟩⟩
       ·
        rw [if_neg c19] at H
        exact absurd H (by simp)
      ·
       rw [if_neg c18] at H
       exact absurd H (by simp)
     ·
      rw [if_neg c16] at H
      have c16b0:decide (0<x9_2)=false:=decide_eq_false c16
      clear c16
      (first|rw [c16b0]|(simp only [aZk,aZP];rw [c16b0])|skip)
      have H':=Aside0.mk H
      clear H
      go_wp2
      repeat (go_quiet (fail);try go_wp2)
      go_meet
      case rel=>exact ⟨_,(0),(by first|rfl|(simp;done)|(simp [*];done)|(simp only [aZk];done)|(simp [aZk,Int.tdiv_eq_ediv_of_nonneg];done)),H',⟨by have:=HJ2.out;first|omega|exact Nat.le_refl _⟩,⟨by (with_reducible repeat (first|refine aZi ?_ _|refine aZj ?_|refine aZh ?_ _));exact BK230.out⟩,⟨by (with_reducible repeat (first|refine aZi ?_ _|refine aZj ?_|refine aZh ?_ _));exact BK231.out⟩,⟨by repeat (first|(with_reducible first|exact HB.out|apply aZb|apply aZa|apply aZc|refine aZf ?_ GE230.out|refine aZf ?_ GE231.out)|exact HB.out)⟩⟩
    case rest =>
     clear HC15
     try clear c1
     try clear c2
     try clear p2
     try clear q2
     try clear hx2
     try clear c6
     try clear p6
     try clear c9
     try clear c10
     try clear c10b0
     try clear c10b1
     try clear c11
     try clear c11b0
     try clear c11b1
     try clear c12
     try clear c13
     try clear c13b0
     try clear c13b1
     try clear c14
     try clear c14b0
     try clear c16
     try clear c16b0
     try clear c18
     try clear c18b0
     try clear c19
     try clear c19b0
     try clear c20
     try clear hcz21_0
     try clear hcz21_1
     try clear hcz7_0
     try clear hcz7_1
     try clear hcz7_2
     try clear hcz7_3
     try clear hcz8_0
     try clear hcz8_1
     try clear hfz21_0
     try clear hfz21_1
     try clear hfz7_0
     try clear hfz7_1
     try clear hfz7_2
     try clear hfz7_3
     try clear hfz8_0
     try clear hfz8_1
     try clear hx232_0
     try clear p2
     try clear p232
     try clear q232
     obtain ⟨kq,x10_14,rfl,HA,HJ14,BK230,BK231,HB⟩:=hcut
     cases kq with
     | zero=>exact absurd HA.out (by simp [berthref21_free.j2])
     | succ kj14 =>
      have H:=HA.out
      clear HA
      simp only [berthref21_free.j2] at H
      replace H:=Option.bind_eq_some_iff.mp H
      obtain ⟨t233,A220,H⟩:=H
      replace H:(if a0_0=27 then (berthref21_free.j3 kj14 (l1_0.length:Int) x10_14 t233 a0_0 (a0_0 == 27) a0_0 a0_1 a0_2 a0_3 l1_0 l1_1) else (if a0_0=28 then (berthref21_free.j3 kj14 (l1_0.length:Int) x10_14 t233 a0_0 (a0_0 == 28) a0_0 a0_1 a0_2 a0_3 l1_0 l1_1) else (berthref21_free.j3 kj14 (l1_0.length:Int) x10_14 t233 a0_0 (a0_0 == 29) a0_0 a0_1 a0_2 a0_3 l1_0 l1_1)))=some (r1,r2,r3):=H
      have A22:=Aside0.mk A220
      clear A220
      have HC23:=Aside0.mk H
      clear H
      go_upto_if 38 with (first|(go_at_call 108;(with_reducible refine (berthref21_bitmap.calls x10_14 t233 _ A22.out).mono ?_);rintro e w' ⟨rfl,⟨nd,rfl⟩⟩;(try first|exact ⟨rfl,_,World.drewN_drewN _ _ _⟩|exact ⟨rfl,_,Eq.trans (World.drewN_drewN _ _ _) (congrArg (World.drewN _) (Nat.add_assoc _ _ _))⟩)))
      repeat (go_quiet (first|(go_at_call 108;(with_reducible refine (berthref21_bitmap.calls x10_14 t233 _ A22.out).mono ?_);rintro e w' ⟨rfl,⟨nd,rfl⟩⟩;(try first|exact ⟨rfl,_,World.drewN_drewN _ _ _⟩|exact ⟨rfl,_,Eq.trans (World.drewN_drewN _ _ _) (congrArg (World.drewN _) (Nat.add_assoc _ _ _))⟩)));go_upto_if 38 with (first|(go_at_call 108;(with_reducible refine (berthref21_bitmap.calls x10_14 t233 _ A22.out).mono ?_);rintro e w' ⟨rfl,⟨nd,rfl⟩⟩;(try first|exact ⟨rfl,_,World.drewN_drewN _ _ _⟩|exact ⟨rfl,_,Eq.trans (World.drewN_drewN _ _ _) (congrArg (World.drewN _) (Nat.add_assoc _ _ _))⟩))))
      (try simp only [Act.put,List.setIfInBounds_toArray,List.set_cons_zero,List.set_cons_succ])
      go_cut [38] (fun v38 wc=>∃ (kq:Nat) (x38_22:Bool),v38=.bool x38_22∧Aside0 (berthref21_free.j3 kq (l1_0.length:Int) x10_14 t233 a0_0 x38_22 a0_0 a0_1 a0_2 a0_3 l1_0 l1_1=some (r1,r2,r3))∧Aside0 (kq≤kj14)∧Aside0 (wc.heap[gb230]?=some (.cells #[.int .i64 a0_0,.int .i64 a0_1,.int .i64 a0_2,.int .i64 a0_3] 66 (0,0)))∧Aside0 (wc.heap[gb231]?=some (.cells #[(.slice A1_0 l1_0.length c1_0),(.slice A1_1 l1_1.length c1_1)] 94 (0,0)))∧Aside0 (Below w.heap.size w wc))
      case first =>
       have H:=HC23.out
       clear HC23
       by_cases c24:a0_0=27
       ·
        rw [if_pos c24] at H
        have c24b0:(a0_0 == 27)=true:=beq_iff_eq.mpr c24
        have c24b1:(a0_0 != 27)=false:=bne_eq_false_iff_eq.mpr c24
        clear c24
        (first|rw [c24b0]|(simp only [aZk,aZP];rw [c24b0])|skip)
        have H':=Aside0.mk H
        clear H
        go_wp2
        repeat (go_quiet (fail);try go_wp2)
        go_meet
        case rel=>exact ⟨_,((a0_0 == 27)),(by first|rfl|(simp;done)|(simp [*];done)|(simp only [aZk];done)|(simp [aZk,Int.tdiv_eq_ediv_of_nonneg];done)),H',⟨by have:=HJ2.out;have:=HJ14.out;first|omega|exact Nat.le_refl _⟩,⟨by (with_reducible repeat (first|refine aZi ?_ _|refine aZj ?_|refine aZh ?_ _));exact BK230.out⟩,⟨by (with_reducible repeat (first|refine aZi ?_ _|refine aZj ?_|refine aZh ?_ _));exact BK231.out⟩,⟨by repeat (first|(with_reducible first|exact HB.out|apply aZb|apply aZa|apply aZc|refine aZf ?_ GE230.out|refine aZf ?_ GE231.out)|exact HB.out)⟩⟩
       ·
        rw [if_neg c24] at H
        have c24b0:(a0_0 == 27)=false:=beq_eq_false_iff_ne.mpr c24
        have c24b1:(a0_0 != 27)=true:=bne_iff_ne.mpr c24
        (first|rw [c24b0]|(simp only [aZk,aZP];rw [c24b0])|skip)
        by_cases c25:a0_0=28
        ·
         rw [if_pos c25] at H
         have c25b0:(a0_0 == 28)=true:=beq_iff_eq.mpr c25
         have c25b1:(a0_0 != 28)=false:=bne_eq_false_iff_eq.mpr c25
         clear c25
         have H':=Aside0.mk H
         clear H
         go_wp2
         repeat (go_quiet (fail);try go_wp2)
         go_meet
         case rel=>exact ⟨_,((a0_0 == 28)),(by first|rfl|(simp;done)|(simp [*];done)|(simp only [aZk];done)|(simp [aZk,Int.tdiv_eq_ediv_of_nonneg];done)),H',⟨by have:=HJ2.out;have:=HJ14.out;first|omega|exact Nat.le_refl _⟩,⟨by (with_reducible repeat (first|refine aZi ?_ _|refine aZj ?_|refine aZh ?_ _));exact BK230.out⟩,⟨by (with_reducible repeat (first|refine aZi ?_ _|refine aZj ?_|refine aZh ?_ _));exact BK231.out⟩,⟨by repeat (first|(with_reducible first|exact HB.out|apply aZb|apply aZa|apply aZc|refine aZf ?_ GE230.out|refine aZf ?_ GE231.out)|exact HB.out)⟩⟩
        ·
         rw [if_neg c25] at H
         have c25b0:(a0_0 == 28)=false:=beq_eq_false_iff_ne.mpr c25
         have c25b1:(a0_0 != 28)=true:=bne_iff_ne.mpr c25
         have H':=Aside0.mk H
         clear H
         go_wp2
         repeat (go_quiet (fail);try go_wp2)
         go_meet
         case rel=>exact ⟨_,((a0_0 == 29)),(by first|rfl|(simp;done)|(simp [*];done)|(simp only [aZk];done)|(simp [aZk,Int.tdiv_eq_ediv_of_nonneg];done)),H',⟨by have:=HJ2.out;have:=HJ14.out;first|omega|exact Nat.le_refl _⟩,⟨by (with_reducible repeat (first|refine aZi ?_ _|refine aZj ?_|refine aZh ?_ _));exact BK230.out⟩,⟨by (with_reducible repeat (first|refine aZi ?_ _|refine aZj ?_|refine aZh ?_ _));exact BK231.out⟩,⟨by repeat (first|(with_reducible first|exact HB.out|apply aZb|apply aZa|apply aZc|refine aZf ?_ GE230.out|refine aZf ?_ GE231.out)|exact HB.out)⟩⟩
      case rest =>
       clear HC23
       try clear c1
       try clear c2
       try clear p2
       try clear q2
       try clear hx2
       try clear c6
       try clear p6
       try clear c9
       try clear c10
       try clear c10b0
       try clear c10b1
       try clear c11
       try clear c11b0
       try clear c11b1
       try clear c12
       try clear c13
       try clear c13b0
       try clear c13b1
       try clear c14
       try clear c14b0
       try clear c16
       try clear c16b0
       try clear c18
       try clear c18b0
       try clear c19
       try clear c19b0
       try clear c20
       try clear p23
       try clear q23
       try clear hx23
       try clear c24
       try clear c24b0
       try clear c24b1
       try clear c25
       try clear c25b0
       try clear c25b1
       try clear hcz21_0
       try clear hcz21_1
       try clear hcz7_0
       try clear hcz7_1
       try clear hcz7_2
       try clear hcz7_3
       try clear hcz8_0
       try clear hcz8_1
       try clear hfz21_0
       try clear hfz21_1
       try clear hfz7_0
       try clear hfz7_1
       try clear hfz7_2
       try clear hfz7_3
       try clear hfz8_0
       try clear hfz8_1
       try clear hx232_0
       try clear p2
       try clear p232
       try clear p6
       try clear q2
       try clear q232
       obtain ⟨kq,x38_22,rfl,HA,HJ22,BK230,BK231,HB⟩:=hcut
       cases kq with
       | zero=>exact absurd HA.out (by simp [berthref21_free.j3])
       | succ kj22 =>
        have H:=HA.out
        clear HA
        simp only [berthref21_free.j3] at H
        by_cases c26:x38_22=true
        ·
         subst c26
         have H1:(if t233=true then (if 0≤(wrap64 ((l1_0.length:Int) - 2)) then (if (wrap64 ((l1_0.length:Int) - 2))<(l1_0.length:Int) then (if (rd l1_0 (wrap64 ((l1_0.length:Int) - 2)))=x10_14 then (some (2,x10_14,0)) else (some (0,0,215))) else (none)) else (none)) else (some (0,0,215)))=some (r1,r2,r3):=by rw [if_pos rfl] at H;exact H
         clear H
         have H:=H1
         clear H1
         by_cases c27:t233=true
         ·
          subst c27
          have H1:(if 0≤(wrap64 ((l1_0.length:Int) - 2)) then (if (wrap64 ((l1_0.length:Int) - 2))<(l1_0.length:Int) then (if (rd l1_0 (wrap64 ((l1_0.length:Int) - 2)))=x10_14 then (some (2,x10_14,0)) else (some (0,0,215))) else (none)) else (none))=some (r1,r2,r3):=by rw [if_pos rfl] at H;exact H
          clear H
          have H:=H1
          clear H1
          obtain ⟨ji28,hji28⟩:∃ j_:Int,(wrap64 ((l1_0.length:Int) - 2))=j_:=⟨_,rfl⟩
          replace H:(if 0≤(ji28) then (if (ji28)<(l1_0.length:Int) then (if (rd l1_0 (ji28))=x10_14 then (some (2,x10_14,0)) else (some (0,0,215))) else (none)) else (none))=some (r1,r2,r3):=by first|(rw [hji28] at H;exact H)|(simp only [hji28] at H ⊢;exact H)
          have hji28w:(IntKind.i64.wrap ((l1_0.length:Int) - 2))=ji28:=(aZk _).trans hji28
          by_cases c29:0≤(ji28)
          ·
           rw [if_pos c29] at H
           have c29b0:decide (0≤(ji28))=true:=decide_eq_true c29
           clear c29
           by_cases c30:(ji28)<(l1_0.length:Int)
           ·
            rw [if_pos c30] at H
            have c30b0:decide ((ji28)<(l1_0.length:Int))=true:=decide_eq_true c30
            clear c30
            by_cases c31:(rd l1_0 (ji28))=x10_14
            ·
             rw [if_pos c31] at H
             have c31b0:((rd l1_0 (ji28)) == x10_14)=true:=beq_iff_eq.mpr c31
             have c31b1:((rd l1_0 (ji28)) != x10_14)=false:=bne_eq_false_iff_eq.mpr c31
             clear c31
             simp only [Option.some.injEq,Prod.mk.injEq] at H
             obtain ⟨rfl,rfl,rfl⟩:=H
             have hnb32:=NB231_230.out
             have hnc32:=NB230_231.out
             have hcz33_0:wc.cell? ⟨gb231,0,none⟩=some (.slice A1_0 l1_0.length c1_0):=(aZd BK231.out 0).trans rfl
             have hcz33_1:wc.cell? ⟨gb231,1,none⟩=some (.slice A1_1 l1_1.length c1_1):=(aZd BK231.out 1).trans rfl
             have hfz33_0:=aZe BK231.out 0
             have hfz33_1:=aZe BK231.out 1
             have p234:0≤((ji28):Int):=of_decide_eq_true (by first|(with_reducible assumption)|assumption)
             have q234:(ji28)<(l1_0.length:Int):=of_decide_eq_true (by first|(with_reducible assumption)|assumption)
             obtain ⟨ad234,e234,hx234_0⟩:=Kd.at_int HR1_0.out (ji28) p234 q234
             cases e234
             replace hx234_0:=(HB.out.cell (World.block_lt_of_cell? w _ hx234_0)).trans hx234_0
             replace p234:=eq_true p234
             replace q234:=eq_true q234
             go_wp2
             repeat (go_quiet (fail);try go_wp2)
             go_ret3
             exact ⟨by first|rfl|(simp [errW_none,errW_some] <;> rfl)|(simp only [←hji28];first|rfl|(simp [errW_none,errW_some] <;> rfl))|(simp [*,errW_none,errW_some] <;> rfl),by repeat (first|(with_reducible first|exact HB.out|apply aZb|apply aZa|apply aZc|refine aZf ?_ GE230.out|refine aZf ?_ GE231.out)|exact HB.out)⟩
            ·
             rw [if_neg c31] at H
             have c31b0:((rd l1_0 (ji28)) == x10_14)=false:=beq_eq_false_iff_ne.mpr c31
             have c31b1:((rd l1_0 (ji28)) != x10_14)=true:=bne_iff_ne.mpr c31
             simp only [Option.some.injEq,Prod.mk.injEq] at H
             obtain ⟨rfl,rfl,rfl⟩:=H
             have hnb34:=NB231_230.out
             have hnc34:=NB230_231.out
             have hcz35_0:wc.cell? ⟨gb231,0,none⟩=some (.slice A1_0 l1_0.length c1_0):=(aZd BK231.out 0).trans rfl
             have hcz35_1:wc.cell? ⟨gb231,1,none⟩=some (.slice A1_1 l1_1.length c1_1):=(aZd BK231.out 1).trans rfl
             have hfz35_0:=aZe BK231.out 0
             have hfz35_1:=aZe BK231.out 1
             have p234:0≤((ji28):Int):=of_decide_eq_true (by first|(with_reducible assumption)|assumption)
             have q234:(ji28)<(l1_0.length:Int):=of_decide_eq_true (by first|(with_reducible assumption)|assumption)
             obtain ⟨ad234,e234,hx234_0⟩:=Kd.at_int HR1_0.out (ji28) p234 q234
             cases e234
             replace hx234_0:=(HB.out.cell (World.block_lt_of_cell? w _ hx234_0)).trans hx234_0
             replace p234:=eq_true p234
             replace q234:=eq_true q234
             go_wp2
             repeat (go_quiet (fail);try go_wp2)
             go_ret3
             exact ⟨by first|rfl|(simp [errW_none,errW_some] <;> rfl)|(simp only [←hji28];first|rfl|(simp [errW_none,errW_some] <;> rfl))|(simp [*,errW_none,errW_some] <;> rfl),by repeat (first|(with_reducible first|exact HB.out|apply aZb|apply aZa|apply aZc|refine aZf ?_ GE230.out|refine aZf ?_ GE231.out)|exact HB.out)⟩
           ·
            rw [if_neg c30] at H
            exact absurd H (by simp)
          ·
           rw [if_neg c29] at H
           exact absurd H (by simp)
         ·
          replace c27:=Bool.eq_false_iff.mpr c27
          subst c27
          have H1:(some (0,0,215))=some (r1,r2,r3):=by rw [if_neg (show ¬(false=true) by decide)] at H;exact H
          clear H
          have H:=H1
          clear H1
          simp only [Option.some.injEq,Prod.mk.injEq] at H
          obtain ⟨rfl,rfl,rfl⟩:=H
          go_wp2
          repeat (go_quiet (fail);try go_wp2)
          go_ret3
          exact ⟨by first|rfl|(simp [errW_none,errW_some] <;> rfl)|(simp [*,errW_none,errW_some] <;> rfl),by repeat (first|(with_reducible first|exact HB.out|apply aZb|apply aZa|apply aZc|refine aZf ?_ GE230.out|refine aZf ?_ GE231.out)|exact HB.out)⟩
        ·
         replace c26:=Bool.eq_false_iff.mpr c26
         subst c26
         have H1:(if a0_0=30 then (berthref21_free.j4 kj22 x10_14 t233 a0_0 (a0_0 == 30) a0_0 a0_1 a0_2 a0_3 l1_0 l1_1) else (if a0_0=33 then (berthref21_free.j4 kj22 x10_14 t233 a0_0 (a0_0 == 33) a0_0 a0_1 a0_2 a0_3 l1_0 l1_1) else (berthref21_free.j4 kj22 x10_14 t233 a0_0 (a0_0 == 34) a0_0 a0_1 a0_2 a0_3 l1_0 l1_1)))=some (r1,r2,r3):=by rw [if_neg (show ¬(false=true) by decide)] at H;exact H
         clear H
         have H:=H1
         clear H1
         have HC36:=Aside0.mk H
         clear H
         go_upto_if 55 with (fail)
         repeat (go_quiet (fail);go_upto_if 55 with (fail))
         go_cut [55] (fun v55 wc=>∃ (kq:Nat) (x55_35:Bool),v55=.bool x55_35∧Aside0 (berthref21_free.j4 kq x10_14 t233 a0_0 x55_35 a0_0 a0_1 a0_2 a0_3 l1_0 l1_1=some (r1,r2,r3))∧Aside0 (kq≤kj22)∧Aside0 (wc.heap[gb230]?=some (.cells #[.int .i64 a0_0,.int .i64 a0_1,.int .i64 a0_2,.int .i64 a0_3] 66 (0,0)))∧Aside0 (wc.heap[gb231]?=some (.cells #[(.slice A1_0 l1_0.length c1_0),(.slice A1_1 l1_1.length c1_1)] 94 (0,0)))∧Aside0 (Below w.heap.size w wc))
         case first =>
          have H:=HC36.out
          clear HC36
          by_cases c37:a0_0=30
          ·
           rw [if_pos c37] at H
           have c37b0:(a0_0 == 30)=true:=beq_iff_eq.mpr c37
           have c37b1:(a0_0 != 30)=false:=bne_eq_false_iff_eq.mpr c37
           clear c37
           (first|rw [c37b0]|(simp only [aZk,aZP];rw [c37b0])|skip)
           have H':=Aside0.mk H
           clear H
           go_wp2
           repeat (go_quiet (fail);try go_wp2)
           go_meet
           case rel=>exact ⟨_,((a0_0 == 30)),(by first|rfl|(simp;done)|(simp [*];done)|(simp only [aZk];done)|(simp [aZk,Int.tdiv_eq_ediv_of_nonneg];done)),H',⟨by have:=HJ2.out;have:=HJ14.out;have:=HJ22.out;first|omega|exact Nat.le_refl _⟩,⟨by (with_reducible repeat (first|refine aZi ?_ _|refine aZj ?_|refine aZh ?_ _));exact BK230.out⟩,⟨by (with_reducible repeat (first|refine aZi ?_ _|refine aZj ?_|refine aZh ?_ _));exact BK231.out⟩,⟨by repeat (first|(with_reducible first|exact HB.out|apply aZb|apply aZa|apply aZc|refine aZf ?_ GE230.out|refine aZf ?_ GE231.out)|exact HB.out)⟩⟩
          ·
           rw [if_neg c37] at H
           have c37b0:(a0_0 == 30)=false:=beq_eq_false_iff_ne.mpr c37
           have c37b1:(a0_0 != 30)=true:=bne_iff_ne.mpr c37
           (first|rw [c37b0]|(simp only [aZk,aZP];rw [c37b0])|skip)
           by_cases c38:a0_0=33
           ·
            rw [if_pos c38] at H
            have c38b0:(a0_0 == 33)=true:=beq_iff_eq.mpr c38
            have c38b1:(a0_0 != 33)=false:=bne_eq_false_iff_eq.mpr c38
            clear c38
            have H':=Aside0.mk H
            clear H
            go_wp2
            repeat (go_quiet (fail);try go_wp2)
            go_meet
            case rel=>exact ⟨_,((a0_0 == 33)),(by first|rfl|(simp;done)|(simp [*];done)|(simp only [aZk];done)|(simp [aZk,Int.tdiv_eq_ediv_of_nonneg];done)),H',⟨by have:=HJ2.out;have:=HJ14.out;have:=HJ22.out;first|omega|exact Nat.le_refl _⟩,⟨by (with_reducible repeat (first|refine aZi ?_ _|refine aZj ?_|refine aZh ?_ _));exact BK230.out⟩,⟨by (with_reducible repeat (first|refine aZi ?_ _|refine aZj ?_|refine aZh ?_ _));exact BK231.out⟩,⟨by repeat (first|(with_reducible first|exact HB.out|apply aZb|apply aZa|apply aZc|refine aZf ?_ GE230.out|refine aZf ?_ GE231.out)|exact HB.out)⟩⟩
           ·
            rw [if_neg c38] at H
            have c38b0:(a0_0 == 33)=false:=beq_eq_false_iff_ne.mpr c38
            have c38b1:(a0_0 != 33)=true:=bne_iff_ne.mpr c38
            have H':=Aside0.mk H
            clear H
            go_wp2
            repeat (go_quiet (fail);try go_wp2)
            go_meet
            case rel=>exact ⟨_,((a0_0 == 34)),(by first|rfl|(simp;done)|(simp [*];done)|(simp only [aZk];done)|(simp [aZk,Int.tdiv_eq_ediv_of_nonneg];done)),H',⟨by have:=HJ2.out;have:=HJ14.out;have:=HJ22.out;first|omega|exact Nat.le_refl _⟩,⟨by (with_reducible repeat (first|refine aZi ?_ _|refine aZj ?_|refine aZh ?_ _));exact BK230.out⟩,⟨by (with_reducible repeat (first|refine aZi ?_ _|refine aZj ?_|refine aZh ?_ _));exact BK231.out⟩,⟨by repeat (first|(with_reducible first|exact HB.out|apply aZb|apply aZa|apply aZc|refine aZf ?_ GE230.out|refine aZf ?_ GE231.out)|exact HB.out)⟩⟩
         case rest =>
          clear HC36
          try clear c1
          try clear c2
          try clear p2
          try clear q2
          try clear hx2
          try clear c3
          try clear c6
          try clear p6
          try clear c9
          try clear c10
          try clear c10b0
          try clear c10b1
          try clear c11
          try clear c11b0
          try clear c11b1
          try clear c12
          try clear c13
          try clear c13b0
          try clear c13b1
          try clear c14
          try clear c14b0
          try clear c16
          try clear c16b0
          try clear c18
          try clear c18b0
          try clear c19
          try clear c19b0
          try clear c20
          try clear p23
          try clear q23
          try clear hx23
          try clear c24
          try clear c24b0
          try clear c24b1
          try clear c25
          try clear c25b0
          try clear c25b1
          try clear c26
          try clear c27
          try clear c29
          try clear c29b0
          try clear c30
          try clear c30b0
          try clear c31
          try clear c31b0
          try clear c31b1
          try clear c32
          try clear c34
          try clear c37
          try clear c37b0
          try clear c37b1
          try clear c38
          try clear c38b0
          try clear c38b1
          try clear hcz21_0
          try clear hcz21_1
          try clear hcz33_0
          try clear hcz33_1
          try clear hcz35_0
          try clear hcz35_1
          try clear hcz7_0
          try clear hcz7_1
          try clear hcz7_2
          try clear hcz7_3
          try clear hcz8_0
          try clear hcz8_1
          try clear hfz21_0
          try clear hfz21_1
          try clear hfz33_0
          try clear hfz33_1
          try clear hfz35_0
          try clear hfz35_1
          try clear hfz7_0
          try clear hfz7_1
          try clear hfz7_2
          try clear hfz7_3
          try clear hfz8_0
          try clear hfz8_1
          try clear hx232_0
          try clear hx234_0
          try clear p2
          try clear p23
          try clear p232
          try clear p234
          try clear p6
          try clear q2
          try clear q23
          try clear q232
          try clear q234
          obtain ⟨kq,x55_35,rfl,HA,HJ35,BK230,BK231,HB⟩:=hcut
          cases kq with
          | zero=>exact absurd HA.out (by simp [berthref21_free.j4])
          | succ kj35 =>
           have H:=HA.out
           clear HA
           simp only [berthref21_free.j4] at H
           by_cases c39:x55_35=true
           ·
            subst c39
            have H1:(if t233=true then (some (1,x10_14,0)) else (some (0,0,215)))=some (r1,r2,r3):=by rw [if_pos rfl] at H;exact H
            clear H
            have H:=H1
            clear H1
            by_cases c40:t233=true
            ·
             subst c40
             have H1:(some (1,x10_14,0))=some (r1,r2,r3):=by rw [if_pos rfl] at H;exact H
             clear H
             have H:=H1
             clear H1
             simp only [Option.some.injEq,Prod.mk.injEq] at H
             obtain ⟨rfl,rfl,rfl⟩:=H
             go_wp2
             repeat (go_quiet (fail);try go_wp2)
             go_ret3
             exact ⟨by first|rfl|(simp [errW_none,errW_some] <;> rfl)|(simp [*,errW_none,errW_some] <;> rfl),by repeat (first|(with_reducible first|exact HB.out|apply aZb|apply aZa|apply aZc|refine aZf ?_ GE230.out|refine aZf ?_ GE231.out)|exact HB.out)⟩
            ·
             replace c40:=Bool.eq_false_iff.mpr c40
             subst c40
             have H1:(some (0,0,215))=some (r1,r2,r3):=by rw [if_neg (show ¬(false=true) by decide)] at H;exact H
             clear H
             have H:=H1
             clear H1
             simp only [Option.some.injEq,Prod.mk.injEq] at H
             obtain ⟨rfl,rfl,rfl⟩:=H
             go_wp2
             repeat (go_quiet (fail);try go_wp2)
             go_ret3
             exact ⟨by first|rfl|(simp [errW_none,errW_some] <;> rfl)|(simp [*,errW_none,errW_some] <;> rfl),by repeat (first|(with_reducible first|exact HB.out|apply aZb|apply aZa|apply aZc|refine aZf ?_ GE230.out|refine aZf ?_ GE231.out)|exact HB.out)⟩
           ·
            replace c39:=Bool.eq_false_iff.mpr c39
            subst c39
            have H1:(if a0_0=31 then (if t233=true then (some (1,0,0)) else (some (0,0,215))) else (if a0_0=32 then (if 0≤a0_1 then (if a0_1<(l1_1.length:Int) then (if (rd l1_1 a0_1)=0 then (some (0,0,217)) else (some (0,rd l1_1 a0_1,0))) else (none)) else (none)) else (some (1,0,0))))=some (r1,r2,r3):=by rw [if_neg (show ¬(false=true) by decide)] at H;exact H
            clear H
            have H:=H1
            clear H1
            by_cases c41:a0_0=31
            ·
             rw [if_pos c41] at H
             have c41b0:(a0_0 == 31)=true:=beq_iff_eq.mpr c41
             have c41b1:(a0_0 != 31)=false:=bne_eq_false_iff_eq.mpr c41
             clear c41
             by_cases c42:t233=true
             ·
              subst c42
              have H1:(some (1,0,0))=some (r1,r2,r3):=by rw [if_pos rfl] at H;exact H
              clear H
              have H:=H1
              clear H1
              simp only [Option.some.injEq,Prod.mk.injEq] at H
              obtain ⟨rfl,rfl,rfl⟩:=H
              go_wp2
              repeat (go_quiet (fail);try go_wp2)
              go_ret3
              exact ⟨by first|rfl|(simp [errW_none,errW_some] <;> rfl)|(simp [*,errW_none,errW_some] <;> rfl),by repeat (first|(with_reducible first|exact HB.out|apply aZb|apply aZa|apply aZc|refine aZf ?_ GE230.out|refine aZf ?_ GE231.out)|exact HB.out)⟩
             ·
              replace c42:=Bool.eq_false_iff.mpr c42
              subst c42
              have H1:(some (0,0,215))=some (r1,r2,r3):=by rw [if_neg (show ¬(false=true) by decide)] at H;exact H
              clear H
              have H:=H1
              clear H1
              simp only [Option.some.injEq,Prod.mk.injEq] at H
              obtain ⟨rfl,rfl,rfl⟩:=H
              go_wp2
              repeat (go_quiet (fail);try go_wp2)
              go_ret3
              exact ⟨by first|rfl|(simp [errW_none,errW_some] <;> rfl)|(simp [*,errW_none,errW_some] <;> rfl),by repeat (first|(with_reducible first|exact HB.out|apply aZb|apply aZa|apply aZc|refine aZf ?_ GE230.out|refine aZf ?_ GE231.out)|exact HB.out)⟩
            ·
             rw [if_neg c41] at H
             have c41b0:(a0_0 == 31)=false:=beq_eq_false_iff_ne.mpr c41
             have c41b1:(a0_0 != 31)=true:=bne_iff_ne.mpr c41
             by_cases c43:a0_0=32
             ·
              rw [if_pos c43] at H
              have c43b0:(a0_0 == 32)=true:=beq_iff_eq.mpr c43
              have c43b1:(a0_0 != 32)=false:=bne_eq_false_iff_eq.mpr c43
              clear c43
              by_cases c44:0≤a0_1
              ·
               rw [if_pos c44] at H
               have c44b0:decide (0≤a0_1)=true:=decide_eq_true c44
               clear c44
               by_cases c45:a0_1<(l1_1.length:Int)
               ·
                rw [if_pos c45] at H
                have c45b0:decide (a0_1<(l1_1.length:Int))=true:=decide_eq_true c45
                clear c45
                by_cases c46:(rd l1_1 a0_1)=0
                ·
                 rw [if_pos c46] at H
                 have c46b0:((rd l1_1 a0_1) == 0)=true:=beq_iff_eq.mpr c46
                 have c46b1:((rd l1_1 a0_1) != 0)=false:=bne_eq_false_iff_eq.mpr c46
                 clear c46
                 simp only [Option.some.injEq,Prod.mk.injEq] at H
                 obtain ⟨rfl,rfl,rfl⟩:=H
                 have hnb47:=NB231_230.out
                 have hnc47:=NB230_231.out
                 have hcz48_0:wc.cell? ⟨gb231,0,none⟩=some (.slice A1_0 l1_0.length c1_0):=(aZd BK231.out 0).trans rfl
                 have hcz48_1:wc.cell? ⟨gb231,1,none⟩=some (.slice A1_1 l1_1.length c1_1):=(aZd BK231.out 1).trans rfl
                 have hfz48_0:=aZe BK231.out 0
                 have hfz48_1:=aZe BK231.out 1
                 have hcz49_0:wc.cell? ⟨gb230,0,none⟩=some (.int .i64 a0_0):=(aZd BK230.out 0).trans rfl
                 have hcz49_1:wc.cell? ⟨gb230,1,none⟩=some (.int .i64 a0_1):=(aZd BK230.out 1).trans rfl
                 have hcz49_2:wc.cell? ⟨gb230,2,none⟩=some (.int .i64 a0_2):=(aZd BK230.out 2).trans rfl
                 have hcz49_3:wc.cell? ⟨gb230,3,none⟩=some (.int .i64 a0_3):=(aZd BK230.out 3).trans rfl
                 have hfz49_0:=aZe BK230.out 0
                 have hfz49_1:=aZe BK230.out 1
                 have hfz49_2:=aZe BK230.out 2
                 have hfz49_3:=aZe BK230.out 3
                 have p235:0≤(a0_1:Int):=of_decide_eq_true (by first|(with_reducible assumption)|assumption)
                 have q235:a0_1<(l1_1.length:Int):=of_decide_eq_true (by first|(with_reducible assumption)|assumption)
                 obtain ⟨ad235,e235,hx235_0⟩:=Kd.at_int HR1_1.out a0_1 p235 q235
                 cases e235
                 replace hx235_0:=(HB.out.cell (World.block_lt_of_cell? w _ hx235_0)).trans hx235_0
                 replace p235:=eq_true p235
                 replace q235:=eq_true q235
                 go_wp2
                 repeat (go_quiet (fail);try go_wp2)
                 go_ret3
                 exact ⟨by first|rfl|(simp [errW_none,errW_some] <;> rfl)|(simp [*,errW_none,errW_some] <;> rfl),by repeat (first|(with_reducible first|exact HB.out|apply aZb|apply aZa|apply aZc|refine aZf ?_ GE230.out|refine aZf ?_ GE231.out)|exact HB.out)⟩
                ·
                 rw [if_neg c46] at H
                 have c46b0:((rd l1_1 a0_1) == 0)=false:=beq_eq_false_iff_ne.mpr c46
                 have c46b1:((rd l1_1 a0_1) != 0)=true:=bne_iff_ne.mpr c46
                 simp only [Option.some.injEq,Prod.mk.injEq] at H
                 obtain ⟨rfl,rfl,rfl⟩:=H
                 have hnb50:=NB231_230.out
                 have hnc50:=NB230_231.out
                 have hcz51_0:wc.cell? ⟨gb231,0,none⟩=some (.slice A1_0 l1_0.length c1_0):=(aZd BK231.out 0).trans rfl
                 have hcz51_1:wc.cell? ⟨gb231,1,none⟩=some (.slice A1_1 l1_1.length c1_1):=(aZd BK231.out 1).trans rfl
                 have hfz51_0:=aZe BK231.out 0
                 have hfz51_1:=aZe BK231.out 1
                 have hcz52_0:wc.cell? ⟨gb230,0,none⟩=some (.int .i64 a0_0):=(aZd BK230.out 0).trans rfl
                 have hcz52_1:wc.cell? ⟨gb230,1,none⟩=some (.int .i64 a0_1):=(aZd BK230.out 1).trans rfl
                 have hcz52_2:wc.cell? ⟨gb230,2,none⟩=some (.int .i64 a0_2):=(aZd BK230.out 2).trans rfl
                 have hcz52_3:wc.cell? ⟨gb230,3,none⟩=some (.int .i64 a0_3):=(aZd BK230.out 3).trans rfl
                 have hfz52_0:=aZe BK230.out 0
                 have hfz52_1:=aZe BK230.out 1
                 have hfz52_2:=aZe BK230.out 2
                 have hfz52_3:=aZe BK230.out 3
                 have p235:0≤(a0_1:Int):=of_decide_eq_true (by first|(with_reducible assumption)|assumption)
                 have q235:a0_1<(l1_1.length:Int):=of_decide_eq_true (by first|(with_reducible assumption)|assumption)
                 obtain ⟨ad235,e235,hx235_0⟩:=Kd.at_int HR1_1.out a0_1 p235 q235
                 cases e235
                 replace hx235_0:=(HB.out.cell (World.block_lt_of_cell? w _ hx235_0)).trans hx235_0
                 replace p235:=eq_true p235
                 replace q235:=eq_true q235
                 have p236:0≤(a0_1:Int):=of_decide_eq_true (by first|(with_reducible assumption)|assumption)
                 have q236:a0_1<(l1_1.length:Int):=of_decide_eq_true (by first|(with_reducible assumption)|assumption)
                 obtain ⟨ad236,e236,hx236_0⟩:=Kd.at_int HR1_1.out a0_1 p236 q236
                 obtain rfl:ad235=ad236:=(by injection e236)
                 replace hx236_0:=(HB.out.cell (World.block_lt_of_cell? w _ hx236_0)).trans hx236_0
                 replace p236:=eq_true p236
                 replace q236:=eq_true q236
                 go_wp2
                 repeat (go_quiet (fail);try go_wp2)
                 go_ret3
                 exact ⟨by first|rfl|(simp [errW_none,errW_some] <;> rfl)|(simp [*,errW_none,errW_some] <;> rfl),by repeat (first|(with_reducible first|exact HB.out|apply aZb|apply aZa|apply aZc|refine aZf ?_ GE230.out|refine aZf ?_ GE231.out)|exact HB.out)⟩
               ·
                rw [if_neg c45] at H
                exact absurd H (by simp)
              ·
               rw [if_neg c44] at H
               exact absurd H (by simp)
             ·
              rw [if_neg c43] at H
              have c43b0:(a0_0 == 32)=false:=beq_eq_false_iff_ne.mpr c43
              have c43b1:(a0_0 != 32)=true:=bne_iff_ne.mpr c43
              simp only [Option.some.injEq,Prod.mk.injEq] at H
              obtain ⟨rfl,rfl,rfl⟩:=H
              go_wp2
              repeat (go_quiet (fail);try go_wp2)
              go_ret3
              exact ⟨by first|rfl|(simp [errW_none,errW_some] <;> rfl)|(simp [*,errW_none,errW_some] <;> rfl),by repeat (first|(with_reducible first|exact HB.out|apply aZb|apply aZa|apply aZc|refine aZf ?_ GE230.out|refine aZf ?_ GE231.out)|exact HB.out)⟩
end Go.Proofs.Ytbnplhmmbnmagaa.All
