/- A part of the proof of AuditBytes: walks written by a program of this session. -/
import Derived.Test.YtbnplhmmbnmagaazAYm2
import Derived.Test.YtbnplhmmbnmagaazAYm4
import Derived.Test.YtbnplhmmbnmagaazAYm6
set_option maxHeartbeats 4000000
set_option maxRecDepth 100000
set_option linter.unusedVariables false
set_option linter.unusedSimpArgs false
namespace Go.Proofs.Ytbnplhmmbnmagaa.All
open Go.RowKit Go.Proofs.YtbnplhmmbnmagaaW.PrintWords Go.Proofs.YtbnplhmmbnmagaaW.PrintLast Go.Proofs.YtbnplhmmbnmagaaW.PrintMore
attribute [local go_sem] bZn bZl bZR bZQ aZ6 aZ5 bZm bZk
attribute [local go_sem] Go.Proofs.YtbnplhmmbnmagaaX.binOp_leq Go.Proofs.YtbnplhmmbnmagaaX.binOp_geq Go.Proofs.YtbnplhmmbnmagaaX.binOp_gtr
attribute [local go_sem high] eqA66
mutual
def berthref20_Same.j0:Nat→Bool→List ByteArray→List Int→List (List ByteArray)→List (List Int)→List (S66)→Int→Int→List ByteArray→List Int→List (List ByteArray)→List (List Int)→List (S66)→Int→Int→Option (Bool)
  | 0,_,_,_,_,_,_,_,_,_,_,_,_,_,_,_=>none
  | k+1,x62,x414000,x414001,x414002,x414003,x414004,x414005,x414006,x415000,x415001,x415002,x415003,x415004,x415005,x415006=>if x62=true then (some false) else (berthref20_Same.l0 k 0 x414000 x414001 x414002 x414003 x414004 x414005 x414006 x415000 x415001 x415002 x415003 x415004 x415005 x415006)
def berthref20_Same.l0:Nat→Int→List ByteArray→List Int→List (List ByteArray)→List (List Int)→List (S66)→Int→Int→List ByteArray→List Int→List (List ByteArray)→List (List Int)→List (S66)→Int→Int→Option (Bool)
  | 0,_,_,_,_,_,_,_,_,_,_,_,_,_,_,_=>none
  | k+1,x5,x414000,x414001,x414002,x414003,x414004,x414005,x414006,x415000,x415001,x415002,x415003,x415004,x415005,x415006=>if x5<(x414002.length:Int) then (if 0≤x5 then (if x5<(x415002.length:Int) then ((berthref20_sameTexts.f k (cZV x414002 x5) (cZV x415002 x5)).bind fun t419=>(if t419=true then (berthref20_Same.l0 k (wrap64 (x5+1)) x414000 x414001 x414002 x414003 x414004 x414005 x414006 x415000 x415001 x415002 x415003 x415004 x415005 x415006) else (some false))) else (none)) else (none)) else (berthref20_Same.l1 k 0 x414000 x414001 x414002 x414003 x414004 x414005 x414006 x415000 x415001 x415002 x415003 x415004 x415005 x415006)
def berthref20_Same.l1:Nat→Int→List ByteArray→List Int→List (List ByteArray)→List (List Int)→List (S66)→Int→Int→List ByteArray→List Int→List (List ByteArray)→List (List Int)→List (S66)→Int→Int→Option (Bool)
  | 0,_,_,_,_,_,_,_,_,_,_,_,_,_,_,_=>none
  | k+1,x6,x414000,x414001,x414002,x414003,x414004,x414005,x414006,x415000,x415001,x415002,x415003,x415004,x415005,x415006=>if x6<(x414003.length:Int) then (if 0≤x6 then (if x6<(x415003.length:Int) then ((berthref20_sameNums.f k (cZx x414003 x6) (cZx x415003 x6)).bind fun t422=>(if t422=true then (berthref20_Same.l1 k (wrap64 (x6+1)) x414000 x414001 x414002 x414003 x414004 x414005 x414006 x415000 x415001 x415002 x415003 x415004 x415005 x415006) else (some false))) else (none)) else (none)) else (berthref20_Same.l2 k 0 x414000 x414001 x414002 x414003 x414004 x414005 x414006 x415000 x415001 x415002 x415003 x415004 x415005 x415006)
def berthref20_Same.l2:Nat→Int→List ByteArray→List Int→List (List ByteArray)→List (List Int)→List (S66)→Int→Int→List ByteArray→List Int→List (List ByteArray)→List (List Int)→List (S66)→Int→Int→Option (Bool)
  | 0,_,_,_,_,_,_,_,_,_,_,_,_,_,_,_=>none
  | k+1,x7,x414000,x414001,x414002,x414003,x414004,x414005,x414006,x415000,x415001,x415002,x415003,x415004,x415005,x415006=>if x7<(x414004.length:Int) then (if 0≤x7 then (if x7<(x415004.length:Int) then (if (!(((aZg x414004 x7).f0) == ((aZg x415004 x7).f0)) || (!(((aZg x414004 x7).f1) == ((aZg x415004 x7).f1)) || (!(((aZg x414004 x7).f2) == ((aZg x415004 x7).f2)) || (!(((aZg x414004 x7).f3) == ((aZg x415004 x7).f3))))))=true then (some false) else (berthref20_Same.l2 k (wrap64 (x7+1)) x414000 x414001 x414002 x414003 x414004 x414005 x414006 x415000 x415001 x415002 x415003 x415004 x415005 x415006)) else (none)) else (none)) else (some true)
end
def berthref20_Same.f (k:Nat) (l0_0:List ByteArray) (l0_1:List Int) (l0_2:List (List ByteArray)) (l0_3:List (List Int)) (l0_4:List (S66)) (a0_5:Int) (a0_6:Int) (l1_0:List ByteArray) (l1_1:List Int) (l1_2:List (List ByteArray)) (l1_3:List (List Int)) (l1_4:List (S66)) (a1_5:Int) (a1_6:Int):Option (Bool):=if a0_5=a1_5 then (if a0_6=a1_6 then ((berthref20_sameTexts.f k l0_0 l1_0).bind fun t415=>(if t415=true then ((berthref20_sameNums.f k l0_1 l1_1).bind fun t416=>(if t416=true then (if (l0_2.length:Int)=(l1_2.length:Int) then (if (l0_3.length:Int)=(l1_3.length:Int) then (berthref20_Same.j0 k ((l0_4.length:Int) != (l1_4.length:Int)) l0_0 l0_1 l0_2 l0_3 l0_4 a0_5 a0_6 l1_0 l1_1 l1_2 l1_3 l1_4 a1_5 a1_6) else (berthref20_Same.j0 k true l0_0 l0_1 l0_2 l0_3 l0_4 a0_5 a0_6 l1_0 l1_1 l1_2 l1_3 l1_4 a1_5 a1_6)) else (berthref20_Same.j0 k true l0_0 l0_1 l0_2 l0_3 l0_4 a0_5 a0_6 l1_0 l1_1 l1_2 l1_3 l1_4 a1_5 a1_6)) else (berthref20_Same.j0 k true l0_0 l0_1 l0_2 l0_3 l0_4 a0_5 a0_6 l1_0 l1_1 l1_2 l1_3 l1_4 a1_5 a1_6))) else (berthref20_Same.j0 k true l0_0 l0_1 l0_2 l0_3 l0_4 a0_5 a0_6 l1_0 l1_1 l1_2 l1_3 l1_4 a1_5 a1_6))) else (berthref20_Same.j0 k true l0_0 l0_1 l0_2 l0_3 l0_4 a0_5 a0_6 l1_0 l1_1 l1_2 l1_3 l1_4 a1_5 a1_6)) else (berthref20_Same.j0 k true l0_0 l0_1 l0_2 l0_3 l0_4 a0_5 a0_6 l1_0 l1_1 l1_2 l1_3 l1_4 a1_5 a1_6)
theorem berthref20_Same.calls (k:Nat) (A0_0:Option Addr) (c0_0:Nat) (l0_0:List ByteArray) (A0_1:Option Addr) (c0_1:Nat) (l0_1:List Int) (A0_2:Option Addr) (c0_2:Nat) (l0_2:List (List ByteArray)) (A0_3:Option Addr) (c0_3:Nat) (l0_3:List (List Int)) (A0_4:Option Addr) (c0_4:Nat) (l0_4:List (S66)) (a0_5:Int) (a0_6:Int) (A1_0:Option Addr) (c1_0:Nat) (l1_0:List ByteArray) (A1_1:Option Addr) (c1_1:Nat) (l1_1:List Int) (A1_2:Option Addr) (c1_2:Nat) (l1_2:List (List ByteArray)) (A1_3:Option Addr) (c1_3:Nat) (l1_3:List (List Int)) (A1_4:Option Addr) (c1_4:Nat) (l1_4:List (S66)) (a1_5:Int) (a1_6:Int) (r:Bool) (w:World) (hr0_0:Kd.C Kd.string w A0_0 l0_0.length l0_0) (hc0_0:l0_0.length≤c0_0) (hr0_1:Kd.C (Kd.int .i64) w A0_1 l0_1.length l0_1) (hc0_1:l0_1.length≤c0_1) (hr0_2:Kd.C (Kd.slice 9 Kd.string) w A0_2 l0_2.length l0_2) (hc0_2:l0_2.length≤c0_2) (hr0_3:Kd.C (Kd.slice 3 (Kd.int .i64)) w A0_3 l0_3.length l0_3) (hc0_3:l0_3.length≤c0_3) (hr0_4:Kd.C k66 w A0_4 l0_4.length l0_4) (hc0_4:l0_4.length≤c0_4) (hr1_0:Kd.C Kd.string w A1_0 l1_0.length l1_0) (hc1_0:l1_0.length≤c1_0) (hr1_1:Kd.C (Kd.int .i64) w A1_1 l1_1.length l1_1) (hc1_1:l1_1.length≤c1_1) (hr1_2:Kd.C (Kd.slice 9 Kd.string) w A1_2 l1_2.length l1_2) (hc1_2:l1_2.length≤c1_2) (hr1_3:Kd.C (Kd.slice 3 (Kd.int .i64)) w A1_3 l1_3.length l1_3) (hc1_3:l1_3.length≤c1_3) (hr1_4:Kd.C k66 w A1_4 l1_4.length l1_4) (hc1_4:l1_4.length≤c1_4) (h:berthref20_Same.f k l0_0 l0_1 l0_2 l0_3 l0_4 a0_5 a0_6 l1_0 l1_1 l1_2 l1_3 l1_4 a1_5 a1_6=some r) :
 Calls Try.prog 20 #[.agg #[.slice A0_0 l0_0.length c0_0,.slice A0_1 l0_1.length c0_1,.slice A0_2 l0_2.length c0_2,.slice A0_3 l0_3.length c0_3,.slice A0_4 l0_4.length c0_4,.int .i64 a0_5,.int .i64 a0_6],.agg #[.slice A1_0 l1_0.length c1_0,.slice A1_1 l1_1.length c1_1,.slice A1_2 l1_2.length c1_2,.slice A1_3 l1_3.length c1_3,.slice A1_4 l1_4.length c1_4,.int .i64 a1_5,.int .i64 a1_6]] w fun e w'=>e=.returned (.bool r)∧Below w.heap.size w w':=by
 have hu28:=Try.underlying28
 have hu66:=Try.underlying66
 have HR0_0:=Aside0.mk hr0_0
 have HC0_0:=Aside0.mk hc0_0
 clear hr0_0 hc0_0
 have HR0_1:=Aside0.mk hr0_1
 have HC0_1:=Aside0.mk hc0_1
 clear hr0_1 hc0_1
 have HR0_2:=Aside0.mk hr0_2
 have HC0_2:=Aside0.mk hc0_2
 clear hr0_2 hc0_2
 have HR0_3:=Aside0.mk hr0_3
 have HC0_3:=Aside0.mk hc0_3
 clear hr0_3 hc0_3
 have HR0_4:=Aside0.mk hr0_4
 have HC0_4:=Aside0.mk hc0_4
 clear hr0_4 hc0_4
 have HR1_0:=Aside0.mk hr1_0
 have HC1_0:=Aside0.mk hc1_0
 clear hr1_0 hc1_0
 have HR1_1:=Aside0.mk hr1_1
 have HC1_1:=Aside0.mk hc1_1
 clear hr1_1 hc1_1
 have HR1_2:=Aside0.mk hr1_2
 have HC1_2:=Aside0.mk hc1_2
 clear hr1_2 hc1_2
 have HR1_3:=Aside0.mk hr1_3
 have HC1_3:=Aside0.mk hc1_3
 clear hr1_3 hc1_3
 have HR1_4:=Aside0.mk hr1_4
 have HC1_4:=Aside0.mk hc1_4
 clear hr1_4 hc1_4
 have HB:=Aside0.mk (Below.refl w.heap.size w)
 have H:(if a0_5=a1_5 then (if a0_6=a1_6 then ((berthref20_sameTexts.f k l0_0 l1_0).bind fun t415=>(if t415=true then ((berthref20_sameNums.f k l0_1 l1_1).bind fun t416=>(if t416=true then (if (l0_2.length:Int)=(l1_2.length:Int) then (if (l0_3.length:Int)=(l1_3.length:Int) then (berthref20_Same.j0 k ((l0_4.length:Int) != (l1_4.length:Int)) l0_0 l0_1 l0_2 l0_3 l0_4 a0_5 a0_6 l1_0 l1_1 l1_2 l1_3 l1_4 a1_5 a1_6) else (berthref20_Same.j0 k true l0_0 l0_1 l0_2 l0_3 l0_4 a0_5 a0_6 l1_0 l1_1 l1_2 l1_3 l1_4 a1_5 a1_6)) else (berthref20_Same.j0 k true l0_0 l0_1 l0_2 l0_3 l0_4 a0_5 a0_6 l1_0 l1_1 l1_2 l1_3 l1_4 a1_5 a1_6)) else (berthref20_Same.j0 k true l0_0 l0_1 l0_2 l0_3 l0_4 a0_5 a0_6 l1_0 l1_1 l1_2 l1_3 l1_4 a1_5 a1_6))) else (berthref20_Same.j0 k true l0_0 l0_1 l0_2 l0_3 l0_4 a0_5 a0_6 l1_0 l1_1 l1_2 l1_3 l1_4 a1_5 a1_6))) else (berthref20_Same.j0 k true l0_0 l0_1 l0_2 l0_3 l0_4 a0_5 a0_6 l1_0 l1_1 l1_2 l1_3 l1_4 a1_5 a1_6)) else (berthref20_Same.j0 k true l0_0 l0_1 l0_2 l0_3 l0_4 a0_5 a0_6 l1_0 l1_1 l1_2 l1_3 l1_4 a1_5 a1_6))=some r:=h
 clear h
 have HC3:=Aside0.mk H
 clear H
 go_enter Try.func20,Try.ntmps20
 go_upto_region 1 with (first|((with_reducible refine aZ2 (N:=2) rfl ?_);(try (refine cZa (by rfl) ?_;dsimp only));refine cZI ?hg (N:=2) ?hd (cs:=#[.slice A0_0 l0_0.length c0_0,.slice A0_1 l0_1.length c0_1,.slice A0_2 l0_2.length c0_2,.slice A0_3 l0_3.length c0_3,.slice A0_4 l0_4.length c0_4,.int .i64 a0_5,.int .i64 a0_6]) (t:=28) ?hr ?_;(case hd=>rfl);(case hg=>rfl);(case hr=>(go_simp;done));intro gb413 hg w4 hbox hb;have n0_:=Aside0.mk (aZ8 (by repeat ((with_reducible exact HB.out))) hb);have n1_:=Aside0.mk (hbox);have n2_:=Aside0.mk ((by rw [hg];exact (aZS (by repeat ((with_reducible exact HB.out)))):w.heap.size≤gb413));have n3_:=Aside0.mk ((by rw [hg];exact (aZS (by repeat ((with_reducible exact HB.out)))):w.heap.size≤gb413));clear HB;have HB:=n0_;have BK413:=n1_;have GW413:=n2_;have GE413:=n3_;clear n0_ n1_ n2_ n3_;clear hb hbox hg)|((with_reducible refine aZ2 (N:=3) rfl ?_);(try (refine cZa (by rfl) ?_;dsimp only));refine cZI ?hg (N:=3) ?hd (cs:=#[.slice A1_0 l1_0.length c1_0,.slice A1_1 l1_1.length c1_1,.slice A1_2 l1_2.length c1_2,.slice A1_3 l1_3.length c1_3,.slice A1_4 l1_4.length c1_4,.int .i64 a1_5,.int .i64 a1_6]) (t:=28) ?hr ?_;(case hd=>rfl);(case hg=>rfl);(case hr=>(go_simp;done));intro gb414 hg w5 hbox hb;have n0_:=Aside0.mk (eZM (g:=gb413) (o:=.cells #[.slice A0_0 l0_0.length c0_0,.slice A0_1 l0_1.length c0_1,.slice A0_2 l0_2.length c0_2,.slice A0_3 l0_3.length c0_3,.slice A0_4 l0_4.length c0_4,.int .i64 a0_5,.int .i64 a0_6] 28 (0,0)) (by (with_reducible repeat (fail));exact BK413.out) hb);have n1_:=Aside0.mk (aZ8 (by repeat ((with_reducible exact HB.out))) hb);have n2_:=Aside0.mk (hbox);have n3_:=Aside0.mk ((by rw [hg];exact (aZS (by repeat ((with_reducible exact HB.out)))):w.heap.size≤gb414));have n4_:=Aside0.mk ((by rw [hg];exact (aZS (by repeat ((with_reducible exact HB.out)))):w.heap.size≤gb414));have n5_:=Aside0.mk ((by rw [hg];exact Nat.ne_of_lt (aZd (g:=gb413) (o:=.cells #[.slice A0_0 l0_0.length c0_0,.slice A0_1 l0_1.length c0_1,.slice A0_2 l0_2.length c0_2,.slice A0_3 l0_3.length c0_3,.slice A0_4 l0_4.length c0_4,.int .i64 a0_5,.int .i64 a0_6] 28 (0,0)) (by (with_reducible repeat (fail));exact BK413.out)):gb413≠gb414));have n6_:=Aside0.mk ((by rw [hg];exact Nat.ne_of_gt (aZd (g:=gb413) (o:=.cells #[.slice A0_0 l0_0.length c0_0,.slice A0_1 l0_1.length c0_1,.slice A0_2 l0_2.length c0_2,.slice A0_3 l0_3.length c0_3,.slice A0_4 l0_4.length c0_4,.int .i64 a0_5,.int .i64 a0_6] 28 (0,0)) (by (with_reducible repeat (fail));exact BK413.out)):gb414≠gb413));clear BK413;clear HB;have BK413:=n0_;have HB:=n1_;have BK414:=n2_;have GW414:=n3_;have GE414:=n4_;have NB413_414:=n5_;have NB414_413:=n6_;clear n0_ n1_ n2_ n3_ n4_ n5_ n6_;clear hb hbox hg))
 repeat (go_quiet (first|((with_reducible refine aZ2 (N:=2) rfl ?_);(try (refine cZa (by rfl) ?_;dsimp only));refine cZI ?hg (N:=2) ?hd (cs:=#[.slice A0_0 l0_0.length c0_0,.slice A0_1 l0_1.length c0_1,.slice A0_2 l0_2.length c0_2,.slice A0_3 l0_3.length c0_3,.slice A0_4 l0_4.length c0_4,.int .i64 a0_5,.int .i64 a0_6]) (t:=28) ?hr ?_;(case hd=>rfl);(case hg=>rfl);(case hr=>first|(go_simp;done)|(go_simp;rfl));intro gb413 hg w4 hbox hb;have n0_:=Aside0.mk (aZ8 (by repeat (first|(with_reducible first|exact HB.out|apply aZb|apply aZa|apply below_drew1)|exact HB.out)) hb);have n1_:=Aside0.mk (hbox);have n2_:=Aside0.mk ((by rw [hg];exact (aZS (by repeat (first|(with_reducible first|exact HB.out|apply aZb|apply aZa|apply below_drew1)|exact HB.out))):w.heap.size≤gb413));have n3_:=Aside0.mk ((by rw [hg];exact (aZS (by repeat (first|(with_reducible first|exact HB.out|apply aZb|apply aZa|apply below_drew1)|exact HB.out))):w.heap.size≤gb413));clear HB;have HB:=n0_;have BK413:=n1_;have GW413:=n2_;have GE413:=n3_;clear n0_ n1_ n2_ n3_;clear hb hbox hg)|((with_reducible refine aZ2 (N:=3) rfl ?_);(try (refine cZa (by rfl) ?_;dsimp only));refine cZI ?hg (N:=3) ?hd (cs:=#[.slice A1_0 l1_0.length c1_0,.slice A1_1 l1_1.length c1_1,.slice A1_2 l1_2.length c1_2,.slice A1_3 l1_3.length c1_3,.slice A1_4 l1_4.length c1_4,.int .i64 a1_5,.int .i64 a1_6]) (t:=28) ?hr ?_;(case hd=>rfl);(case hg=>rfl);(case hr=>first|(go_simp;done)|(go_simp;rfl));intro gb414 hg w5 hbox hb;have n0_:=Aside0.mk (eZM (g:=gb413) (o:=.cells #[.slice A0_0 l0_0.length c0_0,.slice A0_1 l0_1.length c0_1,.slice A0_2 l0_2.length c0_2,.slice A0_3 l0_3.length c0_3,.slice A0_4 l0_4.length c0_4,.int .i64 a0_5,.int .i64 a0_6] 28 (0,0)) (by (with_reducible repeat (first|refine aZE ?_ _|refine blk_drew ?_|refine blk_alloc ?_ _));exact BK413.out) hb);have n1_:=Aside0.mk (aZ8 (by repeat (first|(with_reducible first|exact HB.out|apply aZb|apply aZa|apply below_drew1|refine aZi ?_ GE413.out)|exact HB.out)) hb);have n2_:=Aside0.mk (hbox);have n3_:=Aside0.mk ((by rw [hg];exact (aZS (by repeat (first|(with_reducible first|exact HB.out|apply aZb|apply aZa|apply below_drew1|refine aZi ?_ GE413.out)|exact HB.out))):w.heap.size≤gb414));have n4_:=Aside0.mk ((by rw [hg];exact (aZS (by repeat (first|(with_reducible first|exact HB.out|apply aZb|apply aZa|apply below_drew1|refine aZi ?_ GE413.out)|exact HB.out))):w.heap.size≤gb414));have n5_:=Aside0.mk ((by rw [hg];exact Nat.ne_of_lt (aZd (g:=gb413) (o:=.cells #[.slice A0_0 l0_0.length c0_0,.slice A0_1 l0_1.length c0_1,.slice A0_2 l0_2.length c0_2,.slice A0_3 l0_3.length c0_3,.slice A0_4 l0_4.length c0_4,.int .i64 a0_5,.int .i64 a0_6] 28 (0,0)) (by (with_reducible repeat (first|refine aZE ?_ _|refine blk_drew ?_|refine blk_alloc ?_ _));exact BK413.out)):gb413≠gb414));have n6_:=Aside0.mk ((by rw [hg];exact Nat.ne_of_gt (aZd (g:=gb413) (o:=.cells #[.slice A0_0 l0_0.length c0_0,.slice A0_1 l0_1.length c0_1,.slice A0_2 l0_2.length c0_2,.slice A0_3 l0_3.length c0_3,.slice A0_4 l0_4.length c0_4,.int .i64 a0_5,.int .i64 a0_6] 28 (0,0)) (by (with_reducible repeat (first|refine aZE ?_ _|refine blk_drew ?_|refine blk_alloc ?_ _));exact BK413.out)):gb414≠gb413));clear BK413;clear HB;have BK413:=n0_;have HB:=n1_;have BK414:=n2_;have GW414:=n3_;have GE414:=n4_;have NB413_414:=n5_;have NB414_413:=n6_;clear n0_ n1_ n2_ n3_ n4_ n5_ n6_;clear hb hbox hg));go_upto_region 1 with (first|((with_reducible refine aZ2 (N:=2) rfl ?_);(try (refine cZa (by rfl) ?_;dsimp only));refine cZI ?hg (N:=2) ?hd (cs:=#[.slice A0_0 l0_0.length c0_0,.slice A0_1 l0_1.length c0_1,.slice A0_2 l0_2.length c0_2,.slice A0_3 l0_3.length c0_3,.slice A0_4 l0_4.length c0_4,.int .i64 a0_5,.int .i64 a0_6]) (t:=28) ?hr ?_;(case hd=>rfl);(case hg=>rfl);(case hr=>first|(go_simp;done)|(go_simp;rfl));intro gb413 hg w4 hbox hb;have n0_:=Aside0.mk (aZ8 (by repeat (first|(with_reducible first|exact HB.out|apply aZb|apply aZa|apply below_drew1)|exact HB.out)) hb);have n1_:=Aside0.mk (hbox);have n2_:=Aside0.mk ((by rw [hg];exact (aZS (by repeat (first|(with_reducible first|exact HB.out|apply aZb|apply aZa|apply below_drew1)|exact HB.out))):w.heap.size≤gb413));have n3_:=Aside0.mk ((by rw [hg];exact (aZS (by repeat (first|(with_reducible first|exact HB.out|apply aZb|apply aZa|apply below_drew1)|exact HB.out))):w.heap.size≤gb413));clear HB;have HB:=n0_;have BK413:=n1_;have GW413:=n2_;have GE413:=n3_;clear n0_ n1_ n2_ n3_;clear hb hbox hg)|((with_reducible refine aZ2 (N:=3) rfl ?_);(try (refine cZa (by rfl) ?_;dsimp only));refine cZI ?hg (N:=3) ?hd (cs:=#[.slice A1_0 l1_0.length c1_0,.slice A1_1 l1_1.length c1_1,.slice A1_2 l1_2.length c1_2,.slice A1_3 l1_3.length c1_3,.slice A1_4 l1_4.length c1_4,.int .i64 a1_5,.int .i64 a1_6]) (t:=28) ?hr ?_;(case hd=>rfl);(case hg=>rfl);(case hr=>first|(go_simp;done)|(go_simp;rfl));intro gb414 hg w5 hbox hb;have n0_:=Aside0.mk (eZM (g:=gb413) (o:=.cells #[.slice A0_0 l0_0.length c0_0,.slice A0_1 l0_1.length c0_1,.slice A0_2 l0_2.length c0_2,.slice A0_3 l0_3.length c0_3,.slice A0_4 l0_4.length c0_4,.int .i64 a0_5,.int .i64 a0_6] 28 (0,0)) (by (with_reducible repeat (first|refine aZE ?_ _|refine blk_drew ?_|refine blk_alloc ?_ _));exact BK413.out) hb);have n1_:=Aside0.mk (aZ8 (by repeat (first|(with_reducible first|exact HB.out|apply aZb|apply aZa|apply below_drew1|refine aZi ?_ GE413.out)|exact HB.out)) hb);have n2_:=Aside0.mk (hbox);have n3_:=Aside0.mk ((by rw [hg];exact (aZS (by repeat (first|(with_reducible first|exact HB.out|apply aZb|apply aZa|apply below_drew1|refine aZi ?_ GE413.out)|exact HB.out))):w.heap.size≤gb414));have n4_:=Aside0.mk ((by rw [hg];exact (aZS (by repeat (first|(with_reducible first|exact HB.out|apply aZb|apply aZa|apply below_drew1|refine aZi ?_ GE413.out)|exact HB.out))):w.heap.size≤gb414));have n5_:=Aside0.mk ((by rw [hg];exact Nat.ne_of_lt (aZd (g:=gb413) (o:=.cells #[.slice A0_0 l0_0.length c0_0,.slice A0_1 l0_1.length c0_1,.slice A0_2 l0_2.length c0_2,.slice A0_3 l0_3.length c0_3,.slice A0_4 l0_4.length c0_4,.int .i64 a0_5,.int .i64 a0_6] 28 (0,0)) (by (with_reducible repeat (first|refine aZE ?_ _|refine blk_drew ?_|refine blk_alloc ?_ _));exact BK413.out)):gb413≠gb414));have n6_:=Aside0.mk ((by rw [hg];exact Nat.ne_of_gt (aZd (g:=gb413) (o:=.cells #[.slice A0_0 l0_0.length c0_0,.slice A0_1 l0_1.length c0_1,.slice A0_2 l0_2.length c0_2,.slice A0_3 l0_3.length c0_3,.slice A0_4 l0_4.length c0_4,.int .i64 a0_5,.int .i64 a0_6] 28 (0,0)) (by (with_reducible repeat (first|refine aZE ?_ _|refine blk_drew ?_|refine blk_alloc ?_ _));exact BK413.out)):gb414≠gb413));clear BK413;clear HB;have BK413:=n0_;have HB:=n1_;have BK414:=n2_;have GW414:=n3_;have GE414:=n4_;have NB413_414:=n5_;have NB414_413:=n6_;clear n0_ n1_ n2_ n3_ n4_ n5_ n6_;clear hb hbox hg)))
 go_cut [62] (fun v62 wc=>∃ (kq:Nat) (x62_2:Bool),v62=.bool x62_2∧Aside0 (berthref20_Same.j0 kq x62_2 l0_0 l0_1 l0_2 l0_3 l0_4 a0_5 a0_6 l1_0 l1_1 l1_2 l1_3 l1_4 a1_5 a1_6=some r)∧Aside0 (kq≤k)∧Aside0 (wc.heap[gb413]?=some (.cells #[(.slice A0_0 l0_0.length c0_0),(.slice A0_1 l0_1.length c0_1),(.slice A0_2 l0_2.length c0_2),(.slice A0_3 l0_3.length c0_3),(.slice A0_4 l0_4.length c0_4),.int .i64 a0_5,.int .i64 a0_6] 28 (0,0)))∧Aside0 (wc.heap[gb414]?=some (.cells #[(.slice A1_0 l1_0.length c1_0),(.slice A1_1 l1_1.length c1_1),(.slice A1_2 l1_2.length c1_2),(.slice A1_3 l1_3.length c1_3),(.slice A1_4 l1_4.length c1_4),.int .i64 a1_5,.int .i64 a1_6] 28 (0,0)))∧Aside0 (Below w.heap.size w wc))
 case first =>
  have H:=HC3.out
  clear HC3
  by_cases c6:a0_5=a1_5
  ·
   rw [if_pos c6] at H
   have c6b0:(a0_5 == a1_5)=true:=beq_iff_eq.mpr c6
   have c6b1:(a0_5 != a1_5)=false:=bne_eq_false_iff_eq.mpr c6
   clear c6
   by_cases c7:a0_6=a1_6
   ·
    rw [if_pos c7] at H
    have c7b0:(a0_6 == a1_6)=true:=beq_iff_eq.mpr c7
    have c7b1:(a0_6 != a1_6)=false:=bne_eq_false_iff_eq.mpr c7
    clear c7
    replace H:=Option.bind_eq_some_iff.mp H
    obtain ⟨t415,A80,H⟩:=H
    replace H:(if t415=true then ((berthref20_sameNums.f k l0_1 l1_1).bind fun t416=>(if t416=true then (if (l0_2.length:Int)=(l1_2.length:Int) then (if (l0_3.length:Int)=(l1_3.length:Int) then (berthref20_Same.j0 k ((l0_4.length:Int) != (l1_4.length:Int)) l0_0 l0_1 l0_2 l0_3 l0_4 a0_5 a0_6 l1_0 l1_1 l1_2 l1_3 l1_4 a1_5 a1_6) else (berthref20_Same.j0 k true l0_0 l0_1 l0_2 l0_3 l0_4 a0_5 a0_6 l1_0 l1_1 l1_2 l1_3 l1_4 a1_5 a1_6)) else (berthref20_Same.j0 k true l0_0 l0_1 l0_2 l0_3 l0_4 a0_5 a0_6 l1_0 l1_1 l1_2 l1_3 l1_4 a1_5 a1_6)) else (berthref20_Same.j0 k true l0_0 l0_1 l0_2 l0_3 l0_4 a0_5 a0_6 l1_0 l1_1 l1_2 l1_3 l1_4 a1_5 a1_6))) else (berthref20_Same.j0 k true l0_0 l0_1 l0_2 l0_3 l0_4 a0_5 a0_6 l1_0 l1_1 l1_2 l1_3 l1_4 a1_5 a1_6))=some r:=H
    have A8:=Aside0.mk A80
    clear A80
    by_cases c9:t415=true
    ·
     subst c9
     have H1:((berthref20_sameNums.f k l0_1 l1_1).bind fun t416=>(if t416=true then (if (l0_2.length:Int)=(l1_2.length:Int) then (if (l0_3.length:Int)=(l1_3.length:Int) then (berthref20_Same.j0 k ((l0_4.length:Int) != (l1_4.length:Int)) l0_0 l0_1 l0_2 l0_3 l0_4 a0_5 a0_6 l1_0 l1_1 l1_2 l1_3 l1_4 a1_5 a1_6) else (berthref20_Same.j0 k true l0_0 l0_1 l0_2 l0_3 l0_4 a0_5 a0_6 l1_0 l1_1 l1_2 l1_3 l1_4 a1_5 a1_6)) else (berthref20_Same.j0 k true l0_0 l0_1 l0_2 l0_3 l0_4 a0_5 a0_6 l1_0 l1_1 l1_2 l1_3 l1_4 a1_5 a1_6)) else (berthref20_Same.j0 k true l0_0 l0_1 l0_2 l0_3 l0_4 a0_5 a0_6 l1_0 l1_1 l1_2 l1_3 l1_4 a1_5 a1_6)))=some r:=by rw [if_pos rfl] at H;exact H
     clear H
     have H:=H1
     clear H1
     replace H:=Option.bind_eq_some_iff.mp H
     obtain ⟨t416,A100,H⟩:=H
     replace H:(if t416=true then (if (l0_2.length:Int)=(l1_2.length:Int) then (if (l0_3.length:Int)=(l1_3.length:Int) then (berthref20_Same.j0 k ((l0_4.length:Int) != (l1_4.length:Int)) l0_0 l0_1 l0_2 l0_3 l0_4 a0_5 a0_6 l1_0 l1_1 l1_2 l1_3 l1_4 a1_5 a1_6) else (berthref20_Same.j0 k true l0_0 l0_1 l0_2 l0_3 l0_4 a0_5 a0_6 l1_0 l1_1 l1_2 l1_3 l1_4 a1_5 a1_6)) else (berthref20_Same.j0 k true l0_0 l0_1 l0_2 l0_3 l0_4 a0_5 a0_6 l1_0 l1_1 l1_2 l1_3 l1_4 a1_5 a1_6)) else (berthref20_Same.j0 k true l0_0 l0_1 l0_2 l0_3 l0_4 a0_5 a0_6 l1_0 l1_1 l1_2 l1_3 l1_4 a1_5 a1_6))=some r:=H
     have A10:=Aside0.mk A100
     clear A100
     by_cases c11:t416=true
     ·
      subst c11
      have H1:(if (l0_2.length:Int)=(l1_2.length:Int) then (if (l0_3.length:Int)=(l1_3.length:Int) then (berthref20_Same.j0 k ((l0_4.length:Int) != (l1_4.length:Int)) l0_0 l0_1 l0_2 l0_3 l0_4 a0_5 a0_6 l1_0 l1_1 l1_2 l1_3 l1_4 a1_5 a1_6) else (berthref20_Same.j0 k true l0_0 l0_1 l0_2 l0_3 l0_4 a0_5 a0_6 l1_0 l1_1 l1_2 l1_3 l1_4 a1_5 a1_6)) else (berthref20_Same.j0 k true l0_0 l0_1 l0_2 l0_3 l0_4 a0_5 a0_6 l1_0 l1_1 l1_2 l1_3 l1_4 a1_5 a1_6))=some r:=by rw [if_pos rfl] at H;exact H
      clear H
      have H:=H1
      clear H1
      by_cases c12:(l0_2.length:Int)=(l1_2.length:Int)
      ·
       rw [if_pos c12] at H
       have c12b0:((l0_2.length:Int) == (l1_2.length:Int))=true:=beq_iff_eq.mpr c12
       have c12b1:((l0_2.length:Int) != (l1_2.length:Int))=false:=bne_eq_false_iff_eq.mpr c12
       have c12b2:(l0_2.length == l1_2.length)=true:=by (simp at c12 ⊢;omega)
       clear c12
       by_cases c13:(l0_3.length:Int)=(l1_3.length:Int)
       ·
        rw [if_pos c13] at H
        have c13b0:((l0_3.length:Int) == (l1_3.length:Int))=true:=beq_iff_eq.mpr c13
        have c13b1:((l0_3.length:Int) != (l1_3.length:Int))=false:=bne_eq_false_iff_eq.mpr c13
        have c13b2:(l0_3.length == l1_3.length)=true:=by (simp at c13 ⊢;omega)
        clear c13
        have H':=Aside0.mk H
        clear H
        have hnb14:=NB413_414.out
        have hnc14:=NB414_413.out
        have hcz15_0:w5.cell? ⟨gb413,0,none⟩=some (.slice A0_0 l0_0.length c0_0):=(aZc BK413.out 0).trans rfl
        have hcz15_1:w5.cell? ⟨gb413,1,none⟩=some (.slice A0_1 l0_1.length c0_1):=(aZc BK413.out 1).trans rfl
        have hcz15_2:w5.cell? ⟨gb413,2,none⟩=some (.slice A0_2 l0_2.length c0_2):=(aZc BK413.out 2).trans rfl
        have hcz15_3:w5.cell? ⟨gb413,3,none⟩=some (.slice A0_3 l0_3.length c0_3):=(aZc BK413.out 3).trans rfl
        have hcz15_4:w5.cell? ⟨gb413,4,none⟩=some (.slice A0_4 l0_4.length c0_4):=(aZc BK413.out 4).trans rfl
        have hcz15_5:w5.cell? ⟨gb413,5,none⟩=some (.int .i64 a0_5):=(aZc BK413.out 5).trans rfl
        have hcz15_6:w5.cell? ⟨gb413,6,none⟩=some (.int .i64 a0_6):=(aZc BK413.out 6).trans rfl
        have hcz16_0:w5.cell? ⟨gb414,0,none⟩=some (.slice A1_0 l1_0.length c1_0):=(aZc BK414.out 0).trans rfl
        have hcz16_1:w5.cell? ⟨gb414,1,none⟩=some (.slice A1_1 l1_1.length c1_1):=(aZc BK414.out 1).trans rfl
        have hcz16_2:w5.cell? ⟨gb414,2,none⟩=some (.slice A1_2 l1_2.length c1_2):=(aZc BK414.out 2).trans rfl
        have hcz16_3:w5.cell? ⟨gb414,3,none⟩=some (.slice A1_3 l1_3.length c1_3):=(aZc BK414.out 3).trans rfl
        have hcz16_4:w5.cell? ⟨gb414,4,none⟩=some (.slice A1_4 l1_4.length c1_4):=(aZc BK414.out 4).trans rfl
        have hcz16_5:w5.cell? ⟨gb414,5,none⟩=some (.int .i64 a1_5):=(aZc BK414.out 5).trans rfl
        have hcz16_6:w5.cell? ⟨gb414,6,none⟩=some (.int .i64 a1_6):=(aZc BK414.out 6).trans rfl
        go_wp2_with (first|(go_at_call 33;(with_reducible refine (berthref20_sameTexts.calls k _ _ l0_0 _ _ l1_0 true _ ?side1 ?side2 ?side3 ?side4 A8.out).mono ?_);(case side1=>repeat (exact (Kd.C_below HR0_0.out HB.out)));(case side2=>exact HC0_0.out);(case side3=>repeat (exact (Kd.C_below HR1_0.out HB.out)));(case side4=>exact HC1_0.out);rintro e w' ⟨rfl,⟨nd,rfl⟩⟩;(skip))|(go_at_call 34;(with_reducible refine (berthref20_sameNums.calls k _ _ l0_1 _ _ l1_1 true _ ?side1 ?side2 ?side3 ?side4 A10.out).mono ?_);(case side1=>repeat (exact (Kd.C_below HR0_1.out (by repeat ((with_reducible first|exact HB.out|apply aZa))))));(case side2=>exact HC0_1.out);(case side3=>repeat (exact (Kd.C_below HR1_1.out (by repeat ((with_reducible first|exact HB.out|apply aZa))))));(case side4=>exact HC1_1.out);rintro e w' ⟨rfl,⟨nd,rfl⟩⟩;(skip)))
        repeat (go_quiet (first|(go_at_call 33;(with_reducible refine (berthref20_sameTexts.calls k _ _ l0_0 _ _ l1_0 true _ ?side1 ?side2 ?side3 ?side4 A8.out).mono ?_);(case side1=>repeat (first|exact (Kd.C_below HR0_0.out HB.out)|(with_reducible refine Kd.C_alloc ?_ _)|(with_reducible refine Kd.C_drewN ?_ _)|(with_reducible refine Kd.C_drew ?_)));(case side2=>exact HC0_0.out);(case side3=>repeat (first|exact (Kd.C_below HR1_0.out HB.out)|(with_reducible refine Kd.C_alloc ?_ _)|(with_reducible refine Kd.C_drewN ?_ _)|(with_reducible refine Kd.C_drew ?_)));(case side4=>exact HC1_0.out);rintro e w' ⟨rfl,⟨nd,rfl⟩⟩;(try first|exact ⟨rfl,_,World.drewN_drewN _ _ _⟩|exact ⟨rfl,_,Eq.trans (World.drewN_drewN _ _ _) (congrArg (World.drewN _) (Nat.add_assoc _ _ _))⟩))|(go_at_call 34;(with_reducible refine (berthref20_sameNums.calls k _ _ l0_1 _ _ l1_1 true _ ?side1 ?side2 ?side3 ?side4 A10.out).mono ?_);(case side1=>repeat (first|exact (Kd.C_below HR0_1.out (by repeat (first|(with_reducible first|exact HB.out|apply aZb|apply aZa|apply below_drew1|refine aZi ?_ GE413.out|refine aZi ?_ GE414.out)|exact HB.out)))|(with_reducible refine Kd.C_alloc ?_ _)|(with_reducible refine Kd.C_drewN ?_ _)|(with_reducible refine Kd.C_drew ?_)));(case side2=>exact HC0_1.out);(case side3=>repeat (first|exact (Kd.C_below HR1_1.out (by repeat (first|(with_reducible first|exact HB.out|apply aZb|apply aZa|apply below_drew1|refine aZi ?_ GE413.out|refine aZi ?_ GE414.out)|exact HB.out)))|(with_reducible refine Kd.C_alloc ?_ _)|(with_reducible refine Kd.C_drewN ?_ _)|(with_reducible refine Kd.C_drew ?_)));(case side4=>exact HC1_1.out);rintro e w' ⟨rfl,⟨nd,rfl⟩⟩;(try first|exact ⟨rfl,_,World.drewN_drewN _ _ _⟩|exact ⟨rfl,_,Eq.trans (World.drewN_drewN _ _ _) (congrArg (World.drewN _) (Nat.add_assoc _ _ _))⟩)));try go_wp2_with (first|(go_at_call 33;(with_reducible refine (berthref20_sameTexts.calls k _ _ l0_0 _ _ l1_0 true _ ?side1 ?side2 ?side3 ?side4 A8.out).mono ?_);(case side1=>repeat (first|exact (Kd.C_below HR0_0.out HB.out)|(with_reducible refine Kd.C_alloc ?_ _)|(with_reducible refine Kd.C_drewN ?_ _)|(with_reducible refine Kd.C_drew ?_)));(case side2=>exact HC0_0.out);(case side3=>repeat (first|exact (Kd.C_below HR1_0.out HB.out)|(with_reducible refine Kd.C_alloc ?_ _)|(with_reducible refine Kd.C_drewN ?_ _)|(with_reducible refine Kd.C_drew ?_)));(case side4=>exact HC1_0.out);rintro e w' ⟨rfl,⟨nd,rfl⟩⟩;(try first|exact ⟨rfl,_,World.drewN_drewN _ _ _⟩|exact ⟨rfl,_,Eq.trans (World.drewN_drewN _ _ _) (congrArg (World.drewN _) (Nat.add_assoc _ _ _))⟩))|(go_at_call 34;(with_reducible refine (berthref20_sameNums.calls k _ _ l0_1 _ _ l1_1 true _ ?side1 ?side2 ?side3 ?side4 A10.out).mono ?_);(case side1=>repeat (first|exact (Kd.C_below HR0_1.out (by repeat (first|(with_reducible first|exact HB.out|apply aZb|apply aZa|apply below_drew1|refine aZi ?_ GE413.out|refine aZi ?_ GE414.out)|exact HB.out)))|(with_reducible refine Kd.C_alloc ?_ _)|(with_reducible refine Kd.C_drewN ?_ _)|(with_reducible refine Kd.C_drew ?_)));(case side2=>exact HC0_1.out);(case side3=>repeat (first|exact (Kd.C_below HR1_1.out (by repeat (first|(with_reducible first|exact HB.out|apply aZb|apply aZa|apply below_drew1|refine aZi ?_ GE413.out|refine aZi ?_ GE414.out)|exact HB.out)))|(with_reducible refine Kd.C_alloc ?_ _)|(with_reducible refine Kd.C_drewN ?_ _)|(with_reducible refine Kd.C_drew ?_)));(case side4=>exact HC1_1.out);rintro e w' ⟨rfl,⟨nd,rfl⟩⟩;(try first|exact ⟨rfl,_,World.drewN_drewN _ _ _⟩|exact ⟨rfl,_,Eq.trans (World.drewN_drewN _ _ _) (congrArg (World.drewN _) (Nat.add_assoc _ _ _))⟩))))
        go_meet
        case rel=>exact ⟨_,(((l0_4.length:Int) != (l1_4.length:Int))),(by rfl),H',⟨by omega⟩,⟨by (with_reducible repeat (refine aZE ?_ _));exact BK413.out⟩,⟨by (with_reducible repeat (refine aZE ?_ _));exact BK414.out⟩,⟨by repeat ((with_reducible first|exact HB.out|apply aZa))⟩⟩
       ·
        rw [if_neg c13] at H
        have c13b0:((l0_3.length:Int) == (l1_3.length:Int))=false:=beq_eq_false_iff_ne.mpr c13
        have c13b1:((l0_3.length:Int) != (l1_3.length:Int))=true:=bne_iff_ne.mpr c13
        have c13b2:(l0_3.length == l1_3.length)=false:=by (simp at c13 ⊢;omega)
        have H':=Aside0.mk H
        clear H
        have hnb17:=NB413_414.out
        have hnc17:=NB414_413.out
        have hcz18_0:w5.cell? ⟨gb413,0,none⟩=some (.slice A0_0 l0_0.length c0_0):=(aZc BK413.out 0).trans rfl
        have hcz18_1:w5.cell? ⟨gb413,1,none⟩=some (.slice A0_1 l0_1.length c0_1):=(aZc BK413.out 1).trans rfl
        have hcz18_2:w5.cell? ⟨gb413,2,none⟩=some (.slice A0_2 l0_2.length c0_2):=(aZc BK413.out 2).trans rfl
        have hcz18_3:w5.cell? ⟨gb413,3,none⟩=some (.slice A0_3 l0_3.length c0_3):=(aZc BK413.out 3).trans rfl
        have hcz18_4:w5.cell? ⟨gb413,4,none⟩=some (.slice A0_4 l0_4.length c0_4):=(aZc BK413.out 4).trans rfl
        have hcz18_5:w5.cell? ⟨gb413,5,none⟩=some (.int .i64 a0_5):=(aZc BK413.out 5).trans rfl
        have hcz18_6:w5.cell? ⟨gb413,6,none⟩=some (.int .i64 a0_6):=(aZc BK413.out 6).trans rfl
        have hcz19_0:w5.cell? ⟨gb414,0,none⟩=some (.slice A1_0 l1_0.length c1_0):=(aZc BK414.out 0).trans rfl
        have hcz19_1:w5.cell? ⟨gb414,1,none⟩=some (.slice A1_1 l1_1.length c1_1):=(aZc BK414.out 1).trans rfl
        have hcz19_2:w5.cell? ⟨gb414,2,none⟩=some (.slice A1_2 l1_2.length c1_2):=(aZc BK414.out 2).trans rfl
        have hcz19_3:w5.cell? ⟨gb414,3,none⟩=some (.slice A1_3 l1_3.length c1_3):=(aZc BK414.out 3).trans rfl
        have hcz19_4:w5.cell? ⟨gb414,4,none⟩=some (.slice A1_4 l1_4.length c1_4):=(aZc BK414.out 4).trans rfl
        have hcz19_5:w5.cell? ⟨gb414,5,none⟩=some (.int .i64 a1_5):=(aZc BK414.out 5).trans rfl
        have hcz19_6:w5.cell? ⟨gb414,6,none⟩=some (.int .i64 a1_6):=(aZc BK414.out 6).trans rfl
        go_wp2_with (first|(go_at_call 33;(with_reducible refine (berthref20_sameTexts.calls k _ _ l0_0 _ _ l1_0 true _ ?side1 ?side2 ?side3 ?side4 A8.out).mono ?_);(case side1=>repeat (exact (Kd.C_below HR0_0.out HB.out)));(case side2=>exact HC0_0.out);(case side3=>repeat (exact (Kd.C_below HR1_0.out HB.out)));(case side4=>exact HC1_0.out);rintro e w' ⟨rfl,⟨nd,rfl⟩⟩;(skip))|(go_at_call 34;(with_reducible refine (berthref20_sameNums.calls k _ _ l0_1 _ _ l1_1 true _ ?side1 ?side2 ?side3 ?side4 A10.out).mono ?_);(case side1=>repeat (exact (Kd.C_below HR0_1.out (by repeat ((with_reducible first|exact HB.out|apply aZa))))));(case side2=>exact HC0_1.out);(case side3=>repeat (exact (Kd.C_below HR1_1.out (by repeat ((with_reducible first|exact HB.out|apply aZa))))));(case side4=>exact HC1_1.out);rintro e w' ⟨rfl,⟨nd,rfl⟩⟩;(skip)))
        repeat (go_quiet (first|(go_at_call 33;(with_reducible refine (berthref20_sameTexts.calls k _ _ l0_0 _ _ l1_0 true _ ?side1 ?side2 ?side3 ?side4 A8.out).mono ?_);(case side1=>repeat (first|exact (Kd.C_below HR0_0.out HB.out)|(with_reducible refine Kd.C_alloc ?_ _)|(with_reducible refine Kd.C_drewN ?_ _)|(with_reducible refine Kd.C_drew ?_)));(case side2=>exact HC0_0.out);(case side3=>repeat (first|exact (Kd.C_below HR1_0.out HB.out)|(with_reducible refine Kd.C_alloc ?_ _)|(with_reducible refine Kd.C_drewN ?_ _)|(with_reducible refine Kd.C_drew ?_)));(case side4=>exact HC1_0.out);rintro e w' ⟨rfl,⟨nd,rfl⟩⟩;(try first|exact ⟨rfl,_,World.drewN_drewN _ _ _⟩|exact ⟨rfl,_,Eq.trans (World.drewN_drewN _ _ _) (congrArg (World.drewN _) (Nat.add_assoc _ _ _))⟩))|(go_at_call 34;(with_reducible refine (berthref20_sameNums.calls k _ _ l0_1 _ _ l1_1 true _ ?side1 ?side2 ?side3 ?side4 A10.out).mono ?_);(case side1=>repeat (first|exact (Kd.C_below HR0_1.out (by repeat (first|(with_reducible first|exact HB.out|apply aZb|apply aZa|apply below_drew1|refine aZi ?_ GE413.out|refine aZi ?_ GE414.out)|exact HB.out)))|(with_reducible refine Kd.C_alloc ?_ _)|(with_reducible refine Kd.C_drewN ?_ _)|(with_reducible refine Kd.C_drew ?_)));(case side2=>exact HC0_1.out);(case side3=>repeat (first|exact (Kd.C_below HR1_1.out (by repeat (first|(with_reducible first|exact HB.out|apply aZb|apply aZa|apply below_drew1|refine aZi ?_ GE413.out|refine aZi ?_ GE414.out)|exact HB.out)))|(with_reducible refine Kd.C_alloc ?_ _)|(with_reducible refine Kd.C_drewN ?_ _)|(with_reducible refine Kd.C_drew ?_)));(case side4=>exact HC1_1.out);rintro e w' ⟨rfl,⟨nd,rfl⟩⟩;(try first|exact ⟨rfl,_,World.drewN_drewN _ _ _⟩|exact ⟨rfl,_,Eq.trans (World.drewN_drewN _ _ _) (congrArg (World.drewN _) (Nat.add_assoc _ _ _))⟩)));try go_wp2_with (first|(go_at_call 33;(with_reducible refine (berthref20_sameTexts.calls k _ _ l0_0 _ _ l1_0 true _ ?side1 ?side2 ?side3 ?side4 A8.out).mono ?_);(case side1=>repeat (first|exact (Kd.C_below HR0_0.out HB.out)|(with_reducible refine Kd.C_alloc ?_ _)|(with_reducible refine Kd.C_drewN ?_ _)|(with_reducible refine Kd.C_drew ?_)));(case side2=>exact HC0_0.out);(case side3=>repeat (first|exact (Kd.C_below HR1_0.out HB.out)|(with_reducible refine Kd.C_alloc ?_ _)|(with_reducible refine Kd.C_drewN ?_ _)|(with_reducible refine Kd.C_drew ?_)));(case side4=>exact HC1_0.out);rintro e w' ⟨rfl,⟨nd,rfl⟩⟩;(try first|exact ⟨rfl,_,World.drewN_drewN _ _ _⟩|exact ⟨rfl,_,Eq.trans (World.drewN_drewN _ _ _) (congrArg (World.drewN _) (Nat.add_assoc _ _ _))⟩))|(go_at_call 34;(with_reducible refine (berthref20_sameNums.calls k _ _ l0_1 _ _ l1_1 true _ ?side1 ?side2 ?side3 ?side4 A10.out).mono ?_);(case side1=>repeat (first|exact (Kd.C_below HR0_1.out (by repeat (first|(with_reducible first|exact HB.out|apply aZb|apply aZa|apply below_drew1|refine aZi ?_ GE413.out|refine aZi ?_ GE414.out)|exact HB.out)))|(with_reducible refine Kd.C_alloc ?_ _)|(with_reducible refine Kd.C_drewN ?_ _)|(with_reducible refine Kd.C_drew ?_)));(case side2=>exact HC0_1.out);(case side3=>repeat (first|exact (Kd.C_below HR1_1.out (by repeat (first|(with_reducible first|exact HB.out|apply aZb|apply aZa|apply below_drew1|refine aZi ?_ GE413.out|refine aZi ?_ GE414.out)|exact HB.out)))|(with_reducible refine Kd.C_alloc ?_ _)|(with_reducible refine Kd.C_drewN ?_ _)|(with_reducible refine Kd.C_drew ?_)));(case side4=>exact HC1_1.out);rintro e w' ⟨rfl,⟨nd,rfl⟩⟩;(try first|exact ⟨rfl,_,World.drewN_drewN _ _ _⟩|exact ⟨rfl,_,Eq.trans (World.drewN_drewN _ _ _) (congrArg (World.drewN _) (Nat.add_assoc _ _ _))⟩))))
        go_meet
        case rel=>exact ⟨_,(true),(by rfl),H',⟨by omega⟩,⟨by (with_reducible repeat (refine aZE ?_ _));exact BK413.out⟩,⟨by (with_reducible repeat (refine aZE ?_ _));exact BK414.out⟩,⟨by repeat ((with_reducible first|exact HB.out|apply aZa))⟩⟩
      ·
       rw [if_neg c12] at H
       have c12b0:((l0_2.length:Int) == (l1_2.length:Int))=false:=beq_eq_false_iff_ne.mpr c12
       have c12b1:((l0_2.length:Int) != (l1_2.length:Int))=true:=bne_iff_ne.mpr c12
       have c12b2:(l0_2.length == l1_2.length)=false:=by (simp at c12 ⊢;omega)
       have H':=Aside0.mk H
       clear H
       have hnb20:=NB413_414.out
       have hnc20:=NB414_413.out
       have hcz21_0:w5.cell? ⟨gb413,0,none⟩=some (.slice A0_0 l0_0.length c0_0):=(aZc BK413.out 0).trans rfl
       have hcz21_1:w5.cell? ⟨gb413,1,none⟩=some (.slice A0_1 l0_1.length c0_1):=(aZc BK413.out 1).trans rfl
       have hcz21_2:w5.cell? ⟨gb413,2,none⟩=some (.slice A0_2 l0_2.length c0_2):=(aZc BK413.out 2).trans rfl
       have hcz21_3:w5.cell? ⟨gb413,3,none⟩=some (.slice A0_3 l0_3.length c0_3):=(aZc BK413.out 3).trans rfl
       have hcz21_4:w5.cell? ⟨gb413,4,none⟩=some (.slice A0_4 l0_4.length c0_4):=(aZc BK413.out 4).trans rfl
       have hcz21_5:w5.cell? ⟨gb413,5,none⟩=some (.int .i64 a0_5):=(aZc BK413.out 5).trans rfl
       have hcz21_6:w5.cell? ⟨gb413,6,none⟩=some (.int .i64 a0_6):=(aZc BK413.out 6).trans rfl
       have hcz22_0:w5.cell? ⟨gb414,0,none⟩=some (.slice A1_0 l1_0.length c1_0):=(aZc BK414.out 0).trans rfl
       have hcz22_1:w5.cell? ⟨gb414,1,none⟩=some (.slice A1_1 l1_1.length c1_1):=(aZc BK414.out 1).trans rfl
       have hcz22_2:w5.cell? ⟨gb414,2,none⟩=some (.slice A1_2 l1_2.length c1_2):=(aZc BK414.out 2).trans rfl
       have hcz22_3:w5.cell? ⟨gb414,3,none⟩=some (.slice A1_3 l1_3.length c1_3):=(aZc BK414.out 3).trans rfl
       have hcz22_4:w5.cell? ⟨gb414,4,none⟩=some (.slice A1_4 l1_4.length c1_4):=(aZc BK414.out 4).trans rfl
       have hcz22_5:w5.cell? ⟨gb414,5,none⟩=some (.int .i64 a1_5):=(aZc BK414.out 5).trans rfl
       have hcz22_6:w5.cell? ⟨gb414,6,none⟩=some (.int .i64 a1_6):=(aZc BK414.out 6).trans rfl
       go_wp2_with (first|(go_at_call 33;(with_reducible refine (berthref20_sameTexts.calls k _ _ l0_0 _ _ l1_0 true _ ?side1 ?side2 ?side3 ?side4 A8.out).mono ?_);(case side1=>repeat (exact (Kd.C_below HR0_0.out HB.out)));(case side2=>exact HC0_0.out);(case side3=>repeat (exact (Kd.C_below HR1_0.out HB.out)));(case side4=>exact HC1_0.out);rintro e w' ⟨rfl,⟨nd,rfl⟩⟩;(skip))|(go_at_call 34;(with_reducible refine (berthref20_sameNums.calls k _ _ l0_1 _ _ l1_1 true _ ?side1 ?side2 ?side3 ?side4 A10.out).mono ?_);(case side1=>repeat (exact (Kd.C_below HR0_1.out (by repeat ((with_reducible first|exact HB.out|apply aZa))))));(case side2=>exact HC0_1.out);(case side3=>repeat (exact (Kd.C_below HR1_1.out (by repeat ((with_reducible first|exact HB.out|apply aZa))))));(case side4=>exact HC1_1.out);rintro e w' ⟨rfl,⟨nd,rfl⟩⟩;(skip)))
       repeat (go_quiet (first|(go_at_call 33;(with_reducible refine (berthref20_sameTexts.calls k _ _ l0_0 _ _ l1_0 true _ ?side1 ?side2 ?side3 ?side4 A8.out).mono ?_);(case side1=>repeat (first|exact (Kd.C_below HR0_0.out HB.out)|(with_reducible refine Kd.C_alloc ?_ _)|(with_reducible refine Kd.C_drewN ?_ _)|(with_reducible refine Kd.C_drew ?_)));(case side2=>exact HC0_0.out);(case side3=>repeat (first|exact (Kd.C_below HR1_0.out HB.out)|(with_reducible refine Kd.C_alloc ?_ _)|(with_reducible refine Kd.C_drewN ?_ _)|(with_reducible refine Kd.C_drew ?_)));(case side4=>exact HC1_0.out);rintro e w' ⟨rfl,⟨nd,rfl⟩⟩;(try first|exact ⟨rfl,_,World.drewN_drewN _ _ _⟩|exact ⟨rfl,_,Eq.trans (World.drewN_drewN _ _ _) (congrArg (World.drewN _) (Nat.add_assoc _ _ _))⟩))|(go_at_call 34;(with_reducible refine (berthref20_sameNums.calls k _ _ l0_1 _ _ l1_1 true _ ?side1 ?side2 ?side3 ?side4 A10.out).mono ?_);(case side1=>repeat (first|exact (Kd.C_below HR0_1.out (by repeat (first|(with_reducible first|exact HB.out|apply aZb|apply aZa|apply below_drew1|refine aZi ?_ GE413.out|refine aZi ?_ GE414.out)|exact HB.out)))|(with_reducible refine Kd.C_alloc ?_ _)|(with_reducible refine Kd.C_drewN ?_ _)|(with_reducible refine Kd.C_drew ?_)));(case side2=>exact HC0_1.out);(case side3=>repeat (first|exact (Kd.C_below HR1_1.out (by repeat (first|(with_reducible first|exact HB.out|apply aZb|apply aZa|apply below_drew1|refine aZi ?_ GE413.out|refine aZi ?_ GE414.out)|exact HB.out)))|(with_reducible refine Kd.C_alloc ?_ _)|(with_reducible refine Kd.C_drewN ?_ _)|(with_reducible refine Kd.C_drew ?_)));(case side4=>exact HC1_1.out);rintro e w' ⟨rfl,⟨nd,rfl⟩⟩;(try first|exact ⟨rfl,_,World.drewN_drewN _ _ _⟩|exact ⟨rfl,_,Eq.trans (World.drewN_drewN _ _ _) (congrArg (World.drewN _) (Nat.add_assoc _ _ _))⟩)));try go_wp2_with (first|(go_at_call 33;(with_reducible refine (berthref20_sameTexts.calls k _ _ l0_0 _ _ l1_0 true _ ?side1 ?side2 ?side3 ?side4 A8.out).mono ?_);(case side1=>repeat (first|exact (Kd.C_below HR0_0.out HB.out)|(with_reducible refine Kd.C_alloc ?_ _)|(with_reducible refine Kd.C_drewN ?_ _)|(with_reducible refine Kd.C_drew ?_)));(case side2=>exact HC0_0.out);(case side3=>repeat (first|exact (Kd.C_below HR1_0.out HB.out)|(with_reducible refine Kd.C_alloc ?_ _)|(with_reducible refine Kd.C_drewN ?_ _)|(with_reducible refine Kd.C_drew ?_)));(case side4=>exact HC1_0.out);rintro e w' ⟨rfl,⟨nd,rfl⟩⟩;(try first|exact ⟨rfl,_,World.drewN_drewN _ _ _⟩|exact ⟨rfl,_,Eq.trans (World.drewN_drewN _ _ _) (congrArg (World.drewN _) (Nat.add_assoc _ _ _))⟩))|(go_at_call 34;(with_reducible refine (berthref20_sameNums.calls k _ _ l0_1 _ _ l1_1 true _ ?side1 ?side2 ?side3 ?side4 A10.out).mono ?_);(case side1=>repeat (first|exact (Kd.C_below HR0_1.out (by repeat (first|(with_reducible first|exact HB.out|apply aZb|apply aZa|apply below_drew1|refine aZi ?_ GE413.out|refine aZi ?_ GE414.out)|exact HB.out)))|(with_reducible refine Kd.C_alloc ?_ _)|(with_reducible refine Kd.C_drewN ?_ _)|(with_reducible refine Kd.C_drew ?_)));(case side2=>exact HC0_1.out);(case side3=>repeat (first|exact (Kd.C_below HR1_1.out (by repeat (first|(with_reducible first|exact HB.out|apply aZb|apply aZa|apply below_drew1|refine aZi ?_ GE413.out|refine aZi ?_ GE414.out)|exact HB.out)))|(with_reducible refine Kd.C_alloc ?_ _)|(with_reducible refine Kd.C_drewN ?_ _)|(with_reducible refine Kd.C_drew ?_)));(case side4=>exact HC1_1.out);rintro e w' ⟨rfl,⟨nd,rfl⟩⟩;(try first|exact ⟨rfl,_,World.drewN_drewN _ _ _⟩|exact ⟨rfl,_,Eq.trans (World.drewN_drewN _ _ _) (congrArg (World.drewN _) (Nat.add_assoc _ _ _))⟩))))
       go_meet
       case rel=>exact ⟨_,(true),(by rfl),H',⟨by omega⟩,⟨by (with_reducible repeat (refine aZE ?_ _));exact BK413.out⟩,⟨by (with_reducible repeat (refine aZE ?_ _));exact BK414.out⟩,⟨by repeat ((with_reducible first|exact HB.out|apply aZa))⟩⟩
     ·
      replace c11:=Bool.eq_false_iff.mpr c11
      subst c11
      have H1:(berthref20_Same.j0 k true l0_0 l0_1 l0_2 l0_3 l0_4 a0_5 a0_6 l1_0 l1_1 l1_2 l1_3 l1_4 a1_5 a1_6)=some r:=by rw [if_neg (show ¬(false=true) by decide)] at H;exact H
      clear H
      have H:=H1
      clear H1
      have H':=Aside0.mk H
      clear H
      have hnb23:=NB413_414.out
      have hnc23:=NB414_413.out
      have hcz24_0:w5.cell? ⟨gb413,0,none⟩=some (.slice A0_0 l0_0.length c0_0):=(aZc BK413.out 0).trans rfl
      have hcz24_1:w5.cell? ⟨gb413,1,none⟩=some (.slice A0_1 l0_1.length c0_1):=(aZc BK413.out 1).trans rfl
      have hcz24_2:w5.cell? ⟨gb413,2,none⟩=some (.slice A0_2 l0_2.length c0_2):=(aZc BK413.out 2).trans rfl
      have hcz24_3:w5.cell? ⟨gb413,3,none⟩=some (.slice A0_3 l0_3.length c0_3):=(aZc BK413.out 3).trans rfl
      have hcz24_4:w5.cell? ⟨gb413,4,none⟩=some (.slice A0_4 l0_4.length c0_4):=(aZc BK413.out 4).trans rfl
      have hcz24_5:w5.cell? ⟨gb413,5,none⟩=some (.int .i64 a0_5):=(aZc BK413.out 5).trans rfl
      have hcz24_6:w5.cell? ⟨gb413,6,none⟩=some (.int .i64 a0_6):=(aZc BK413.out 6).trans rfl
      have hcz25_0:w5.cell? ⟨gb414,0,none⟩=some (.slice A1_0 l1_0.length c1_0):=(aZc BK414.out 0).trans rfl
      have hcz25_1:w5.cell? ⟨gb414,1,none⟩=some (.slice A1_1 l1_1.length c1_1):=(aZc BK414.out 1).trans rfl
      have hcz25_2:w5.cell? ⟨gb414,2,none⟩=some (.slice A1_2 l1_2.length c1_2):=(aZc BK414.out 2).trans rfl
      have hcz25_3:w5.cell? ⟨gb414,3,none⟩=some (.slice A1_3 l1_3.length c1_3):=(aZc BK414.out 3).trans rfl
      have hcz25_4:w5.cell? ⟨gb414,4,none⟩=some (.slice A1_4 l1_4.length c1_4):=(aZc BK414.out 4).trans rfl
      have hcz25_5:w5.cell? ⟨gb414,5,none⟩=some (.int .i64 a1_5):=(aZc BK414.out 5).trans rfl
      have hcz25_6:w5.cell? ⟨gb414,6,none⟩=some (.int .i64 a1_6):=(aZc BK414.out 6).trans rfl
      go_wp2_with (first|(go_at_call 33;(with_reducible refine (berthref20_sameTexts.calls k _ _ l0_0 _ _ l1_0 true _ ?side1 ?side2 ?side3 ?side4 A8.out).mono ?_);(case side1=>repeat (exact (Kd.C_below HR0_0.out HB.out)));(case side2=>exact HC0_0.out);(case side3=>repeat (exact (Kd.C_below HR1_0.out HB.out)));(case side4=>exact HC1_0.out);rintro e w' ⟨rfl,⟨nd,rfl⟩⟩;(skip))|(go_at_call 34;(with_reducible refine (berthref20_sameNums.calls k _ _ l0_1 _ _ l1_1 false _ ?side1 ?side2 ?side3 ?side4 A10.out).mono ?_);(case side1=>repeat (exact (Kd.C_below HR0_1.out (by repeat ((with_reducible first|exact HB.out|apply aZa))))));(case side2=>exact HC0_1.out);(case side3=>repeat (exact (Kd.C_below HR1_1.out (by repeat ((with_reducible first|exact HB.out|apply aZa))))));(case side4=>exact HC1_1.out);rintro e w' ⟨rfl,⟨nd,rfl⟩⟩;(skip)))
      repeat (go_quiet (first|(go_at_call 33;(with_reducible refine (berthref20_sameTexts.calls k _ _ l0_0 _ _ l1_0 true _ ?side1 ?side2 ?side3 ?side4 A8.out).mono ?_);(case side1=>repeat (first|exact (Kd.C_below HR0_0.out HB.out)|(with_reducible refine Kd.C_alloc ?_ _)|(with_reducible refine Kd.C_drewN ?_ _)|(with_reducible refine Kd.C_drew ?_)));(case side2=>exact HC0_0.out);(case side3=>repeat (first|exact (Kd.C_below HR1_0.out HB.out)|(with_reducible refine Kd.C_alloc ?_ _)|(with_reducible refine Kd.C_drewN ?_ _)|(with_reducible refine Kd.C_drew ?_)));(case side4=>exact HC1_0.out);rintro e w' ⟨rfl,⟨nd,rfl⟩⟩;(try first|exact ⟨rfl,_,World.drewN_drewN _ _ _⟩|exact ⟨rfl,_,Eq.trans (World.drewN_drewN _ _ _) (congrArg (World.drewN _) (Nat.add_assoc _ _ _))⟩))|(go_at_call 34;(with_reducible refine (berthref20_sameNums.calls k _ _ l0_1 _ _ l1_1 false _ ?side1 ?side2 ?side3 ?side4 A10.out).mono ?_);(case side1=>repeat (first|exact (Kd.C_below HR0_1.out (by repeat (first|(with_reducible first|exact HB.out|apply aZb|apply aZa|apply below_drew1|refine aZi ?_ GE413.out|refine aZi ?_ GE414.out)|exact HB.out)))|(with_reducible refine Kd.C_alloc ?_ _)|(with_reducible refine Kd.C_drewN ?_ _)|(with_reducible refine Kd.C_drew ?_)));(case side2=>exact HC0_1.out);(case side3=>repeat (first|exact (Kd.C_below HR1_1.out (by repeat (first|(with_reducible first|exact HB.out|apply aZb|apply aZa|apply below_drew1|refine aZi ?_ GE413.out|refine aZi ?_ GE414.out)|exact HB.out)))|(with_reducible refine Kd.C_alloc ?_ _)|(with_reducible refine Kd.C_drewN ?_ _)|(with_reducible refine Kd.C_drew ?_)));(case side4=>exact HC1_1.out);rintro e w' ⟨rfl,⟨nd,rfl⟩⟩;(try first|exact ⟨rfl,_,World.drewN_drewN _ _ _⟩|exact ⟨rfl,_,Eq.trans (World.drewN_drewN _ _ _) (congrArg (World.drewN _) (Nat.add_assoc _ _ _))⟩)));try go_wp2_with (first|(go_at_call 33;(with_reducible refine (berthref20_sameTexts.calls k _ _ l0_0 _ _ l1_0 true _ ?side1 ?side2 ?side3 ?side4 A8.out).mono ?_);(case side1=>repeat (first|exact (Kd.C_below HR0_0.out HB.out)|(with_reducible refine Kd.C_alloc ?_ _)|(with_reducible refine Kd.C_drewN ?_ _)|(with_reducible refine Kd.C_drew ?_)));(case side2=>exact HC0_0.out);(case side3=>repeat (first|exact (Kd.C_below HR1_0.out HB.out)|(with_reducible refine Kd.C_alloc ?_ _)|(with_reducible refine Kd.C_drewN ?_ _)|(with_reducible refine Kd.C_drew ?_)));(case side4=>exact HC1_0.out);rintro e w' ⟨rfl,⟨nd,rfl⟩⟩;(try first|exact ⟨rfl,_,World.drewN_drewN _ _ _⟩|exact ⟨rfl,_,Eq.trans (World.drewN_drewN _ _ _) (congrArg (World.drewN _) (Nat.add_assoc _ _ _))⟩))|(go_at_call 34;(with_reducible refine (berthref20_sameNums.calls k _ _ l0_1 _ _ l1_1 false _ ?side1 ?side2 ?side3 ?side4 A10.out).mono ?_);(case side1=>repeat (first|exact (Kd.C_below HR0_1.out (by repeat (first|(with_reducible first|exact HB.out|apply aZb|apply aZa|apply below_drew1|refine aZi ?_ GE413.out|refine aZi ?_ GE414.out)|exact HB.out)))|(with_reducible refine Kd.C_alloc ?_ _)|(with_reducible refine Kd.C_drewN ?_ _)|(with_reducible refine Kd.C_drew ?_)));(case side2=>exact HC0_1.out);(case side3=>repeat (first|exact (Kd.C_below HR1_1.out (by repeat (first|(with_reducible first|exact HB.out|apply aZb|apply aZa|apply below_drew1|refine aZi ?_ GE413.out|refine aZi ?_ GE414.out)|exact HB.out)))|(with_reducible refine Kd.C_alloc ?_ _)|(with_reducible refine Kd.C_drewN ?_ _)|(with_reducible refine Kd.C_drew ?_)));(case side4=>exact HC1_1.out);rintro e w' ⟨rfl,⟨nd,rfl⟩⟩;(try first|exact ⟨rfl,_,World.drewN_drewN _ _ _⟩|exact ⟨rfl,_,Eq.trans (World.drewN_drewN _ _ _) (congrArg (World.drewN _) (Nat.add_assoc _ _ _))⟩))))
      go_meet
      case rel=>exact ⟨_,(true),(by rfl),H',⟨by omega⟩,⟨by (with_reducible repeat (refine aZE ?_ _));exact BK413.out⟩,⟨by (with_reducible repeat (refine aZE ?_ _));exact BK414.out⟩,⟨by repeat ((with_reducible first|exact HB.out|apply aZa))⟩⟩
    ·
     replace c9:=Bool.eq_false_iff.mpr c9
     subst c9
     have H1:(berthref20_Same.j0 k true l0_0 l0_1 l0_2 l0_3 l0_4 a0_5 a0_6 l1_0 l1_1 l1_2 l1_3 l1_4 a1_5 a1_6)=some r:=by rw [if_neg (show ¬(false=true) by decide)] at H;exact H
     clear H
     have H:=H1
     clear H1
     have H':=Aside0.mk H
     clear H
     have hnb26:=NB413_414.out
     have hnc26:=NB414_413.out
     have hcz27_0:w5.cell? ⟨gb413,0,none⟩=some (.slice A0_0 l0_0.length c0_0):=(aZc BK413.out 0).trans rfl
     have hcz27_1:w5.cell? ⟨gb413,1,none⟩=some (.slice A0_1 l0_1.length c0_1):=(aZc BK413.out 1).trans rfl
     have hcz27_2:w5.cell? ⟨gb413,2,none⟩=some (.slice A0_2 l0_2.length c0_2):=(aZc BK413.out 2).trans rfl
     have hcz27_3:w5.cell? ⟨gb413,3,none⟩=some (.slice A0_3 l0_3.length c0_3):=(aZc BK413.out 3).trans rfl
     have hcz27_4:w5.cell? ⟨gb413,4,none⟩=some (.slice A0_4 l0_4.length c0_4):=(aZc BK413.out 4).trans rfl
     have hcz27_5:w5.cell? ⟨gb413,5,none⟩=some (.int .i64 a0_5):=(aZc BK413.out 5).trans rfl
     have hcz27_6:w5.cell? ⟨gb413,6,none⟩=some (.int .i64 a0_6):=(aZc BK413.out 6).trans rfl
     have hcz28_0:w5.cell? ⟨gb414,0,none⟩=some (.slice A1_0 l1_0.length c1_0):=(aZc BK414.out 0).trans rfl
     have hcz28_1:w5.cell? ⟨gb414,1,none⟩=some (.slice A1_1 l1_1.length c1_1):=(aZc BK414.out 1).trans rfl
     have hcz28_2:w5.cell? ⟨gb414,2,none⟩=some (.slice A1_2 l1_2.length c1_2):=(aZc BK414.out 2).trans rfl
     have hcz28_3:w5.cell? ⟨gb414,3,none⟩=some (.slice A1_3 l1_3.length c1_3):=(aZc BK414.out 3).trans rfl
     have hcz28_4:w5.cell? ⟨gb414,4,none⟩=some (.slice A1_4 l1_4.length c1_4):=(aZc BK414.out 4).trans rfl
     have hcz28_5:w5.cell? ⟨gb414,5,none⟩=some (.int .i64 a1_5):=(aZc BK414.out 5).trans rfl
     have hcz28_6:w5.cell? ⟨gb414,6,none⟩=some (.int .i64 a1_6):=(aZc BK414.out 6).trans rfl
     go_wp2_with ((go_at_call 33;(with_reducible refine (berthref20_sameTexts.calls k _ _ l0_0 _ _ l1_0 false _ ?side1 ?side2 ?side3 ?side4 A8.out).mono ?_);(case side1=>repeat (exact (Kd.C_below HR0_0.out HB.out)));(case side2=>exact HC0_0.out);(case side3=>repeat (exact (Kd.C_below HR1_0.out HB.out)));(case side4=>exact HC1_0.out);rintro e w' ⟨rfl,⟨nd,rfl⟩⟩;(skip)))
     repeat (go_quiet (first|(go_at_call 33;(with_reducible refine (berthref20_sameTexts.calls k _ _ l0_0 _ _ l1_0 false _ ?side1 ?side2 ?side3 ?side4 A8.out).mono ?_);(case side1=>repeat (first|exact (Kd.C_below HR0_0.out HB.out)|(with_reducible refine Kd.C_alloc ?_ _)|(with_reducible refine Kd.C_drewN ?_ _)|(with_reducible refine Kd.C_drew ?_)));(case side2=>exact HC0_0.out);(case side3=>repeat (first|exact (Kd.C_below HR1_0.out HB.out)|(with_reducible refine Kd.C_alloc ?_ _)|(with_reducible refine Kd.C_drewN ?_ _)|(with_reducible refine Kd.C_drew ?_)));(case side4=>exact HC1_0.out);rintro e w' ⟨rfl,⟨nd,rfl⟩⟩;(try first|exact ⟨rfl,_,World.drewN_drewN _ _ _⟩|exact ⟨rfl,_,Eq.trans (World.drewN_drewN _ _ _) (congrArg (World.drewN _) (Nat.add_assoc _ _ _))⟩)));try go_wp2_with (first|(go_at_call 33;(with_reducible refine (berthref20_sameTexts.calls k _ _ l0_0 _ _ l1_0 false _ ?side1 ?side2 ?side3 ?side4 A8.out).mono ?_);(case side1=>repeat (first|exact (Kd.C_below HR0_0.out HB.out)|(with_reducible refine Kd.C_alloc ?_ _)|(with_reducible refine Kd.C_drewN ?_ _)|(with_reducible refine Kd.C_drew ?_)));(case side2=>exact HC0_0.out);(case side3=>repeat (first|exact (Kd.C_below HR1_0.out HB.out)|(with_reducible refine Kd.C_alloc ?_ _)|(with_reducible refine Kd.C_drewN ?_ _)|(with_reducible refine Kd.C_drew ?_)));(case side4=>exact HC1_0.out);rintro e w' ⟨rfl,⟨nd,rfl⟩⟩;(try first|exact ⟨rfl,_,World.drewN_drewN _ _ _⟩|exact ⟨rfl,_,Eq.trans (World.drewN_drewN _ _ _) (congrArg (World.drewN _) (Nat.add_assoc _ _ _))⟩))))
     go_meet
     case rel=>exact ⟨_,(true),(by rfl),H',⟨by omega⟩,⟨by (with_reducible repeat (refine aZE ?_ _));exact BK413.out⟩,⟨by (with_reducible repeat (refine aZE ?_ _));exact BK414.out⟩,⟨by repeat ((with_reducible first|exact HB.out|apply aZa))⟩⟩
   ·
    rw [if_neg c7] at H
    have c7b0:(a0_6 == a1_6)=false:=beq_eq_false_iff_ne.mpr c7
    have c7b1:(a0_6 != a1_6)=true:=bne_iff_ne.mpr c7
    have H':=Aside0.mk H
    clear H
    have hnb29:=NB413_414.out
    have hnc29:=NB414_413.out
    have hcz30_0:w5.cell? ⟨gb413,0,none⟩=some (.slice A0_0 l0_0.length c0_0):=(aZc BK413.out 0).trans rfl
    have hcz30_1:w5.cell? ⟨gb413,1,none⟩=some (.slice A0_1 l0_1.length c0_1):=(aZc BK413.out 1).trans rfl
    have hcz30_2:w5.cell? ⟨gb413,2,none⟩=some (.slice A0_2 l0_2.length c0_2):=(aZc BK413.out 2).trans rfl
    have hcz30_3:w5.cell? ⟨gb413,3,none⟩=some (.slice A0_3 l0_3.length c0_3):=(aZc BK413.out 3).trans rfl
    have hcz30_4:w5.cell? ⟨gb413,4,none⟩=some (.slice A0_4 l0_4.length c0_4):=(aZc BK413.out 4).trans rfl
    have hcz30_5:w5.cell? ⟨gb413,5,none⟩=some (.int .i64 a0_5):=(aZc BK413.out 5).trans rfl
    have hcz30_6:w5.cell? ⟨gb413,6,none⟩=some (.int .i64 a0_6):=(aZc BK413.out 6).trans rfl
    have hcz31_0:w5.cell? ⟨gb414,0,none⟩=some (.slice A1_0 l1_0.length c1_0):=(aZc BK414.out 0).trans rfl
    have hcz31_1:w5.cell? ⟨gb414,1,none⟩=some (.slice A1_1 l1_1.length c1_1):=(aZc BK414.out 1).trans rfl
    have hcz31_2:w5.cell? ⟨gb414,2,none⟩=some (.slice A1_2 l1_2.length c1_2):=(aZc BK414.out 2).trans rfl
    have hcz31_3:w5.cell? ⟨gb414,3,none⟩=some (.slice A1_3 l1_3.length c1_3):=(aZc BK414.out 3).trans rfl
    have hcz31_4:w5.cell? ⟨gb414,4,none⟩=some (.slice A1_4 l1_4.length c1_4):=(aZc BK414.out 4).trans rfl
    have hcz31_5:w5.cell? ⟨gb414,5,none⟩=some (.int .i64 a1_5):=(aZc BK414.out 5).trans rfl
    have hcz31_6:w5.cell? ⟨gb414,6,none⟩=some (.int .i64 a1_6):=(aZc BK414.out 6).trans rfl
    go_wp2
    repeat (go_quiet (fail);try go_wp2)
    go_meet
    case rel=>exact ⟨_,(true),(by rfl),H',⟨by omega⟩,⟨by (with_reducible repeat (fail));exact BK413.out⟩,⟨by (with_reducible repeat (fail));exact BK414.out⟩,⟨by repeat ((with_reducible exact HB.out))⟩⟩
  ·
   rw [if_neg c6] at H
   have c6b0:(a0_5 == a1_5)=false:=beq_eq_false_iff_ne.mpr c6
   have c6b1:(a0_5 != a1_5)=true:=bne_iff_ne.mpr c6
   have H':=Aside0.mk H
   clear H
   have hnb32:=NB413_414.out
   have hnc32:=NB414_413.out
   have hcz33_0:w5.cell? ⟨gb413,0,none⟩=some (.slice A0_0 l0_0.length c0_0):=(aZc BK413.out 0).trans rfl
   have hcz33_1:w5.cell? ⟨gb413,1,none⟩=some (.slice A0_1 l0_1.length c0_1):=(aZc BK413.out 1).trans rfl
   have hcz33_2:w5.cell? ⟨gb413,2,none⟩=some (.slice A0_2 l0_2.length c0_2):=(aZc BK413.out 2).trans rfl
   have hcz33_3:w5.cell? ⟨gb413,3,none⟩=some (.slice A0_3 l0_3.length c0_3):=(aZc BK413.out 3).trans rfl
   have hcz33_4:w5.cell? ⟨gb413,4,none⟩=some (.slice A0_4 l0_4.length c0_4):=(aZc BK413.out 4).trans rfl
   have hcz33_5:w5.cell? ⟨gb413,5,none⟩=some (.int .i64 a0_5):=(aZc BK413.out 5).trans rfl
   have hcz33_6:w5.cell? ⟨gb413,6,none⟩=some (.int .i64 a0_6):=(aZc BK413.out 6).trans rfl
   have hcz34_0:w5.cell? ⟨gb414,0,none⟩=some (.slice A1_0 l1_0.length c1_0):=(aZc BK414.out 0).trans rfl
   have hcz34_1:w5.cell? ⟨gb414,1,none⟩=some (.slice A1_1 l1_1.length c1_1):=(aZc BK414.out 1).trans rfl
   have hcz34_2:w5.cell? ⟨gb414,2,none⟩=some (.slice A1_2 l1_2.length c1_2):=(aZc BK414.out 2).trans rfl
   have hcz34_3:w5.cell? ⟨gb414,3,none⟩=some (.slice A1_3 l1_3.length c1_3):=(aZc BK414.out 3).trans rfl
   have hcz34_4:w5.cell? ⟨gb414,4,none⟩=some (.slice A1_4 l1_4.length c1_4):=(aZc BK414.out 4).trans rfl
   have hcz34_5:w5.cell? ⟨gb414,5,none⟩=some (.int .i64 a1_5):=(aZc BK414.out 5).trans rfl
   have hcz34_6:w5.cell? ⟨gb414,6,none⟩=some (.int .i64 a1_6):=(aZc BK414.out 6).trans rfl
   go_wp2
   repeat (go_quiet (fail);try go_wp2)
   go_meet
   case rel=>exact ⟨_,(true),(by rfl),H',⟨by omega⟩,⟨by (with_reducible repeat (fail));exact BK413.out⟩,⟨by (with_reducible repeat (fail));exact BK414.out⟩,⟨by repeat ((with_reducible exact HB.out))⟩⟩
 case rest =>
  clear HC3
  obtain ⟨kq,x62_2,rfl,HA,HJ2,BK413,BK414,HB⟩:=hcut
  cases kq with
  | zero=>exact absurd HA.out (by simp [berthref20_Same.j0])
  | succ kj2 =>
   have H:=HA.out
   clear HA
   simp only [berthref20_Same.j0] at H
   by_cases c35:x62_2=true
   ·
    subst c35
    have H1:(some false)=some r:=by rw [if_pos rfl] at H;exact H
    clear H
    have H:=H1
    clear H1
    obtain rfl:=Option.some.inj H
    go_wp2
    repeat (go_quiet (fail);try go_wp2)
    go_ret
    exact ⟨by rfl,by repeat ((with_reducible exact HB.out))⟩
   ·
    replace c35:=Bool.eq_false_iff.mpr c35
    subst c35
    have H1:(berthref20_Same.l0 kj2 0 l0_0 l0_1 l0_2 l0_3 l0_4 a0_5 a0_6 l1_0 l1_1 l1_2 l1_3 l1_4 a1_5 a1_6)=some r:=by rw [if_neg (show ¬(false=true) by decide)] at H;exact H
    clear H
    have H:=H1
    clear H1
    have H':=Aside0.mk H
    clear H
    go_wp2
    repeat (go_quiet (fail);try go_wp2)
    go_loopg [5] kj2 (fun kq v5 w'=>∃ (x5_2:Int),v5=.int .i64 x5_2∧Aside0 (berthref20_Same.l0 kq x5_2 l0_0 l0_1 l0_2 l0_3 l0_4 a0_5 a0_6 l1_0 l1_1 l1_2 l1_3 l1_4 a1_5 a1_6=some r)∧Aside0 (kq≤kj2)∧Aside0 (w'.heap[gb413]?=some (.cells #[(.slice A0_0 l0_0.length c0_0),(.slice A0_1 l0_1.length c0_1),(.slice A0_2 l0_2.length c0_2),(.slice A0_3 l0_3.length c0_3),(.slice A0_4 l0_4.length c0_4),.int .i64 a0_5,.int .i64 a0_6] 28 (0,0)))∧Aside0 (w'.heap[gb414]?=some (.cells #[(.slice A1_0 l1_0.length c1_0),(.slice A1_1 l1_1.length c1_1),(.slice A1_2 l1_2.length c1_2),(.slice A1_3 l1_3.length c1_3),(.slice A1_4 l1_4.length c1_4),.int .i64 a1_5,.int .i64 a1_6] 28 (0,0)))∧Aside0 (Below w.heap.size w w'))
    case atStart=>exact ⟨(0),(by rfl),H',⟨Nat.le_refl _⟩,⟨by (with_reducible repeat (fail));exact BK413.out⟩,⟨by (with_reducible repeat (fail));exact BK414.out⟩,⟨by repeat ((with_reducible exact HB.out))⟩⟩
    case round =>
     clear H'
     obtain ⟨x5_2,rfl,HA,HK2,BK413,BK414,HB⟩:=hrel
     cases gk with
     | zero=>exact absurd HA.out (by simp [berthref20_Same.l0])
     | succ k2 =>
      have H:=HA.out
      clear HA
      simp only [berthref20_Same.l0] at H
      by_cases c36:x5_2<(l0_2.length:Int)
      ·
       rw [if_pos c36] at H
       have c36b0:decide (x5_2<(l0_2.length:Int))=true:=decide_eq_true c36
       clear c36
       by_cases c37:0≤x5_2
       ·
        rw [if_pos c37] at H
        have c37b0:decide (0≤x5_2)=true:=decide_eq_true c37
        clear c37
        by_cases c38:x5_2<(l1_2.length:Int)
        ·
         rw [if_pos c38] at H
         have c38b0:decide (x5_2<(l1_2.length:Int))=true:=decide_eq_true c38
         clear c38
         replace H:=Option.bind_eq_some_iff.mp H
         obtain ⟨t419,A390,H⟩:=H
         replace H:(if t419=true then (berthref20_Same.l0 k2 (wrap64 (x5_2+1)) l0_0 l0_1 l0_2 l0_3 l0_4 a0_5 a0_6 l1_0 l1_1 l1_2 l1_3 l1_4 a1_5 a1_6) else (some false))=some r:=H
         have A39:=Aside0.mk A390
         clear A390
         by_cases c40:t419=true
         ·
          subst c40
          have H1:(berthref20_Same.l0 k2 (wrap64 (x5_2+1)) l0_0 l0_1 l0_2 l0_3 l0_4 a0_5 a0_6 l1_0 l1_1 l1_2 l1_3 l1_4 a1_5 a1_6)=some r:=by rw [if_pos rfl] at H;exact H
          clear H
          have H:=H1
          clear H1
          have H':=Aside0.mk H
          clear H
          have hnb41:=NB413_414.out
          have hnc41:=NB414_413.out
          have hcz42_0:wr.cell? ⟨gb413,0,none⟩=some (.slice A0_0 l0_0.length c0_0):=(aZc BK413.out 0).trans rfl
          have hcz42_1:wr.cell? ⟨gb413,1,none⟩=some (.slice A0_1 l0_1.length c0_1):=(aZc BK413.out 1).trans rfl
          have hcz42_2:wr.cell? ⟨gb413,2,none⟩=some (.slice A0_2 l0_2.length c0_2):=(aZc BK413.out 2).trans rfl
          have hcz42_3:wr.cell? ⟨gb413,3,none⟩=some (.slice A0_3 l0_3.length c0_3):=(aZc BK413.out 3).trans rfl
          have hcz42_4:wr.cell? ⟨gb413,4,none⟩=some (.slice A0_4 l0_4.length c0_4):=(aZc BK413.out 4).trans rfl
          have hcz42_5:wr.cell? ⟨gb413,5,none⟩=some (.int .i64 a0_5):=(aZc BK413.out 5).trans rfl
          have hcz42_6:wr.cell? ⟨gb413,6,none⟩=some (.int .i64 a0_6):=(aZc BK413.out 6).trans rfl
          have p417:0≤(x5_2:Int):=of_decide_eq_true (by (with_reducible assumption))
          have q417:x5_2<(l0_2.length:Int):=of_decide_eq_true (by (with_reducible assumption))
          obtain ⟨ad417,A417_0,c417_0,e417,hx417_0,hl417_0,hi417_0⟩:=at_L3 HR0_2.out x5_2 p417 q417
          cases e417
          replace hx417_0:=(HB.out.cell (World.block_lt_of_cell? w _ hx417_0)).trans hx417_0
          have HR417_0:=Aside0.mk hi417_0
          have HC417_0:=Aside0.mk hl417_0
          clear hi417_0 hl417_0
          replace p417:=eq_true p417
          replace q417:=eq_true q417
          have hcz43_0:wr.cell? ⟨gb414,0,none⟩=some (.slice A1_0 l1_0.length c1_0):=(aZc BK414.out 0).trans rfl
          have hcz43_1:wr.cell? ⟨gb414,1,none⟩=some (.slice A1_1 l1_1.length c1_1):=(aZc BK414.out 1).trans rfl
          have hcz43_2:wr.cell? ⟨gb414,2,none⟩=some (.slice A1_2 l1_2.length c1_2):=(aZc BK414.out 2).trans rfl
          have hcz43_3:wr.cell? ⟨gb414,3,none⟩=some (.slice A1_3 l1_3.length c1_3):=(aZc BK414.out 3).trans rfl
          have hcz43_4:wr.cell? ⟨gb414,4,none⟩=some (.slice A1_4 l1_4.length c1_4):=(aZc BK414.out 4).trans rfl
          have hcz43_5:wr.cell? ⟨gb414,5,none⟩=some (.int .i64 a1_5):=(aZc BK414.out 5).trans rfl
          have hcz43_6:wr.cell? ⟨gb414,6,none⟩=some (.int .i64 a1_6):=(aZc BK414.out 6).trans rfl
          have p418:0≤(x5_2:Int):=of_decide_eq_true (by (with_reducible assumption))
          have q418:x5_2<(l1_2.length:Int):=of_decide_eq_true (by (with_reducible assumption))
          obtain ⟨ad418,A418_0,c418_0,e418,hx418_0,hl418_0,hi418_0⟩:=at_L3 HR1_2.out x5_2 p418 q418
          cases e418
          replace hx418_0:=(HB.out.cell (World.block_lt_of_cell? w _ hx418_0)).trans hx418_0
          have HR418_0:=Aside0.mk hi418_0
          have HC418_0:=Aside0.mk hl418_0
          clear hi418_0 hl418_0
          replace p418:=eq_true p418
          replace q418:=eq_true q418
          go_wp2_with (fail)
          repeat (go_quiet ((go_at_call 33;(with_reducible refine (berthref20_sameTexts.calls k2 _ _ (cZV l0_2 x5_2) _ _ (cZV l1_2 x5_2) true _ ?side1 ?side2 ?side3 ?side4 A39.out).mono ?_);(case side1=>repeat (first|exact (Kd.C_below HR417_0.out HB.out)|(with_reducible refine Kd.C_drewN ?_ _)));(case side2=>exact HC417_0.out);(case side3=>repeat (first|exact (Kd.C_below HR418_0.out HB.out)|(with_reducible refine Kd.C_drewN ?_ _)));(case side4=>exact HC418_0.out);rintro e w' ⟨rfl,⟨nd,rfl⟩⟩;(try exact ⟨rfl,_,World.drewN_drewN _ _ _⟩)));try go_wp2_with (fail))
          go_roundg k2
          case measure=>have:=HJ2.out;have:=HK2.out;omega
          case rel=>exact ⟨(wrap64 (x5_2+1)),(by rfl),H',⟨by have:=HJ2.out;have:=HK2.out;omega⟩,⟨by (with_reducible repeat (refine aZE ?_ _));exact BK413.out⟩,⟨by (with_reducible repeat (refine aZE ?_ _));exact BK414.out⟩,⟨by repeat ((with_reducible first|exact HB.out|apply aZa))⟩⟩
         ·
          replace c40:=Bool.eq_false_iff.mpr c40
          subst c40
          have H1:(some false)=some r:=by rw [if_neg (show ¬(false=true) by decide)] at H;exact H
          clear H
          have H:=H1
          clear H1
          obtain rfl:=Option.some.inj H
          have hnb44:=NB413_414.out
          have hnc44:=NB414_413.out
          have hcz45_0:wr.cell? ⟨gb413,0,none⟩=some (.slice A0_0 l0_0.length c0_0):=(aZc BK413.out 0).trans rfl
          have hcz45_1:wr.cell? ⟨gb413,1,none⟩=some (.slice A0_1 l0_1.length c0_1):=(aZc BK413.out 1).trans rfl
          have hcz45_2:wr.cell? ⟨gb413,2,none⟩=some (.slice A0_2 l0_2.length c0_2):=(aZc BK413.out 2).trans rfl
          have hcz45_3:wr.cell? ⟨gb413,3,none⟩=some (.slice A0_3 l0_3.length c0_3):=(aZc BK413.out 3).trans rfl
          have hcz45_4:wr.cell? ⟨gb413,4,none⟩=some (.slice A0_4 l0_4.length c0_4):=(aZc BK413.out 4).trans rfl
          have hcz45_5:wr.cell? ⟨gb413,5,none⟩=some (.int .i64 a0_5):=(aZc BK413.out 5).trans rfl
          have hcz45_6:wr.cell? ⟨gb413,6,none⟩=some (.int .i64 a0_6):=(aZc BK413.out 6).trans rfl
          have p417:0≤(x5_2:Int):=of_decide_eq_true (by (with_reducible assumption))
          have q417:x5_2<(l0_2.length:Int):=of_decide_eq_true (by (with_reducible assumption))
          obtain ⟨ad417,A417_0,c417_0,e417,hx417_0,hl417_0,hi417_0⟩:=at_L3 HR0_2.out x5_2 p417 q417
          cases e417
          replace hx417_0:=(HB.out.cell (World.block_lt_of_cell? w _ hx417_0)).trans hx417_0
          have HR417_0:=Aside0.mk hi417_0
          have HC417_0:=Aside0.mk hl417_0
          clear hi417_0 hl417_0
          replace p417:=eq_true p417
          replace q417:=eq_true q417
          have hcz46_0:wr.cell? ⟨gb414,0,none⟩=some (.slice A1_0 l1_0.length c1_0):=(aZc BK414.out 0).trans rfl
          have hcz46_1:wr.cell? ⟨gb414,1,none⟩=some (.slice A1_1 l1_1.length c1_1):=(aZc BK414.out 1).trans rfl
          have hcz46_2:wr.cell? ⟨gb414,2,none⟩=some (.slice A1_2 l1_2.length c1_2):=(aZc BK414.out 2).trans rfl
          have hcz46_3:wr.cell? ⟨gb414,3,none⟩=some (.slice A1_3 l1_3.length c1_3):=(aZc BK414.out 3).trans rfl
          have hcz46_4:wr.cell? ⟨gb414,4,none⟩=some (.slice A1_4 l1_4.length c1_4):=(aZc BK414.out 4).trans rfl
          have hcz46_5:wr.cell? ⟨gb414,5,none⟩=some (.int .i64 a1_5):=(aZc BK414.out 5).trans rfl
          have hcz46_6:wr.cell? ⟨gb414,6,none⟩=some (.int .i64 a1_6):=(aZc BK414.out 6).trans rfl
          have p418:0≤(x5_2:Int):=of_decide_eq_true (by (with_reducible assumption))
          have q418:x5_2<(l1_2.length:Int):=of_decide_eq_true (by (with_reducible assumption))
          obtain ⟨ad418,A418_0,c418_0,e418,hx418_0,hl418_0,hi418_0⟩:=at_L3 HR1_2.out x5_2 p418 q418
          cases e418
          replace hx418_0:=(HB.out.cell (World.block_lt_of_cell? w _ hx418_0)).trans hx418_0
          have HR418_0:=Aside0.mk hi418_0
          have HC418_0:=Aside0.mk hl418_0
          clear hi418_0 hl418_0
          replace p418:=eq_true p418
          replace q418:=eq_true q418
          go_wp2_with (fail)
          repeat (go_quiet ((go_at_call 33;(with_reducible refine (berthref20_sameTexts.calls k2 _ _ (cZV l0_2 x5_2) _ _ (cZV l1_2 x5_2) false _ ?side1 ?side2 ?side3 ?side4 A39.out).mono ?_);(case side1=>repeat (first|exact (Kd.C_below HR417_0.out HB.out)|(with_reducible refine Kd.C_drewN ?_ _)));(case side2=>exact HC417_0.out);(case side3=>repeat (first|exact (Kd.C_below HR418_0.out HB.out)|(with_reducible refine Kd.C_drewN ?_ _)));(case side4=>exact HC418_0.out);rintro e w' ⟨rfl,⟨nd,rfl⟩⟩;(try exact ⟨rfl,_,World.drewN_drewN _ _ _⟩)));try go_wp2_with (fail))
          go_ret
          exact ⟨by rfl,by repeat ((with_reducible first|exact HB.out|apply aZa))⟩
        ·
         rw [if_neg c38] at H
         exact absurd H (by simp)
       ·
        rw [if_neg c37] at H
        exact absurd H (by simp)
      ·
       rw [if_neg c36] at H
       have c36b0:decide (x5_2<(l0_2.length:Int))=false:=decide_eq_false c36
       clear c36
       have H':=Aside0.mk H
       clear H
       have hnb47:=NB413_414.out
       have hnc47:=NB414_413.out
       have hcz48_0:wr.cell? ⟨gb413,0,none⟩=some (.slice A0_0 l0_0.length c0_0):=(aZc BK413.out 0).trans rfl
       have hcz48_1:wr.cell? ⟨gb413,1,none⟩=some (.slice A0_1 l0_1.length c0_1):=(aZc BK413.out 1).trans rfl
       have hcz48_2:wr.cell? ⟨gb413,2,none⟩=some (.slice A0_2 l0_2.length c0_2):=(aZc BK413.out 2).trans rfl
       have hcz48_3:wr.cell? ⟨gb413,3,none⟩=some (.slice A0_3 l0_3.length c0_3):=(aZc BK413.out 3).trans rfl
       have hcz48_4:wr.cell? ⟨gb413,4,none⟩=some (.slice A0_4 l0_4.length c0_4):=(aZc BK413.out 4).trans rfl
       have hcz48_5:wr.cell? ⟨gb413,5,none⟩=some (.int .i64 a0_5):=(aZc BK413.out 5).trans rfl
       have hcz48_6:wr.cell? ⟨gb413,6,none⟩=some (.int .i64 a0_6):=(aZc BK413.out 6).trans rfl
       go_wp2
       repeat (go_quiet (fail);try go_wp2)
       go_loopg [6] k2 (fun kq v6 w'=>∃ (x6_3:Int),v6=.int .i64 x6_3∧Aside0 (berthref20_Same.l1 kq x6_3 l0_0 l0_1 l0_2 l0_3 l0_4 a0_5 a0_6 l1_0 l1_1 l1_2 l1_3 l1_4 a1_5 a1_6=some r)∧Aside0 (kq≤k2)∧Aside0 (w'.heap[gb413]?=some (.cells #[(.slice A0_0 l0_0.length c0_0),(.slice A0_1 l0_1.length c0_1),(.slice A0_2 l0_2.length c0_2),(.slice A0_3 l0_3.length c0_3),(.slice A0_4 l0_4.length c0_4),.int .i64 a0_5,.int .i64 a0_6] 28 (0,0)))∧Aside0 (w'.heap[gb414]?=some (.cells #[(.slice A1_0 l1_0.length c1_0),(.slice A1_1 l1_1.length c1_1),(.slice A1_2 l1_2.length c1_2),(.slice A1_3 l1_3.length c1_3),(.slice A1_4 l1_4.length c1_4),.int .i64 a1_5,.int .i64 a1_6] 28 (0,0)))∧Aside0 (Below w.heap.size w w'))
       case atStart=>exact ⟨(0),(by rfl),H',⟨Nat.le_refl _⟩,⟨by (with_reducible repeat (fail));exact BK413.out⟩,⟨by (with_reducible repeat (fail));exact BK414.out⟩,⟨by repeat ((with_reducible exact HB.out))⟩⟩
       case round =>
        clear H'
        clear hcz48_0 hcz48_1 hcz48_2 hcz48_3 hcz48_4 hcz48_5 hcz48_6
        try clear c36b0
        obtain ⟨x6_3,rfl,HA,HK3,BK413,BK414,HB⟩:=hrel
        cases gk with
        | zero=>exact absurd HA.out (by simp [berthref20_Same.l1])
        | succ k3 =>
         have H:=HA.out
         clear HA
         simp only [berthref20_Same.l1] at H
         by_cases c49:x6_3<(l0_3.length:Int)
         ·
          rw [if_pos c49] at H
          have c49b0:decide (x6_3<(l0_3.length:Int))=true:=decide_eq_true c49
          clear c49
          by_cases c50:0≤x6_3
          ·
           rw [if_pos c50] at H
           have c50b0:decide (0≤x6_3)=true:=decide_eq_true c50
           clear c50
           by_cases c51:x6_3<(l1_3.length:Int)
           ·
            rw [if_pos c51] at H
            have c51b0:decide (x6_3<(l1_3.length:Int))=true:=decide_eq_true c51
            clear c51
            replace H:=Option.bind_eq_some_iff.mp H
            obtain ⟨t422,A520,H⟩:=H
            replace H:(if t422=true then (berthref20_Same.l1 k3 (wrap64 (x6_3+1)) l0_0 l0_1 l0_2 l0_3 l0_4 a0_5 a0_6 l1_0 l1_1 l1_2 l1_3 l1_4 a1_5 a1_6) else (some false))=some r:=H
            have A52:=Aside0.mk A520
            clear A520
            by_cases c53:t422=true
            ·
             subst c53
             have H1:(berthref20_Same.l1 k3 (wrap64 (x6_3+1)) l0_0 l0_1 l0_2 l0_3 l0_4 a0_5 a0_6 l1_0 l1_1 l1_2 l1_3 l1_4 a1_5 a1_6)=some r:=by rw [if_pos rfl] at H;exact H
             clear H
             have H:=H1
             clear H1
             have H':=Aside0.mk H
             clear H
             have hnb54:=NB413_414.out
             have hnc54:=NB414_413.out
             have hcz55_0:wr.cell? ⟨gb413,0,none⟩=some (.slice A0_0 l0_0.length c0_0):=(aZc BK413.out 0).trans rfl
             have hcz55_1:wr.cell? ⟨gb413,1,none⟩=some (.slice A0_1 l0_1.length c0_1):=(aZc BK413.out 1).trans rfl
             have hcz55_2:wr.cell? ⟨gb413,2,none⟩=some (.slice A0_2 l0_2.length c0_2):=(aZc BK413.out 2).trans rfl
             have hcz55_3:wr.cell? ⟨gb413,3,none⟩=some (.slice A0_3 l0_3.length c0_3):=(aZc BK413.out 3).trans rfl
             have hcz55_4:wr.cell? ⟨gb413,4,none⟩=some (.slice A0_4 l0_4.length c0_4):=(aZc BK413.out 4).trans rfl
             have hcz55_5:wr.cell? ⟨gb413,5,none⟩=some (.int .i64 a0_5):=(aZc BK413.out 5).trans rfl
             have hcz55_6:wr.cell? ⟨gb413,6,none⟩=some (.int .i64 a0_6):=(aZc BK413.out 6).trans rfl
             have p420:0≤(x6_3:Int):=of_decide_eq_true (by (with_reducible assumption))
             have q420:x6_3<(l0_3.length:Int):=of_decide_eq_true (by (with_reducible assumption))
             obtain ⟨ad420,A420_0,c420_0,e420,hx420_0,hl420_0,hi420_0⟩:=at_L4 HR0_3.out x6_3 p420 q420
             cases e420
             replace hx420_0:=(HB.out.cell (World.block_lt_of_cell? w _ hx420_0)).trans hx420_0
             have HR420_0:=Aside0.mk hi420_0
             have HC420_0:=Aside0.mk hl420_0
             clear hi420_0 hl420_0
             replace p420:=eq_true p420
             replace q420:=eq_true q420
             have hcz56_0:wr.cell? ⟨gb414,0,none⟩=some (.slice A1_0 l1_0.length c1_0):=(aZc BK414.out 0).trans rfl
             have hcz56_1:wr.cell? ⟨gb414,1,none⟩=some (.slice A1_1 l1_1.length c1_1):=(aZc BK414.out 1).trans rfl
             have hcz56_2:wr.cell? ⟨gb414,2,none⟩=some (.slice A1_2 l1_2.length c1_2):=(aZc BK414.out 2).trans rfl
             have hcz56_3:wr.cell? ⟨gb414,3,none⟩=some (.slice A1_3 l1_3.length c1_3):=(aZc BK414.out 3).trans rfl
             have hcz56_4:wr.cell? ⟨gb414,4,none⟩=some (.slice A1_4 l1_4.length c1_4):=(aZc BK414.out 4).trans rfl
             have hcz56_5:wr.cell? ⟨gb414,5,none⟩=some (.int .i64 a1_5):=(aZc BK414.out 5).trans rfl
             have hcz56_6:wr.cell? ⟨gb414,6,none⟩=some (.int .i64 a1_6):=(aZc BK414.out 6).trans rfl
             have p421:0≤(x6_3:Int):=of_decide_eq_true (by (with_reducible assumption))
             have q421:x6_3<(l1_3.length:Int):=of_decide_eq_true (by (with_reducible assumption))
             obtain ⟨ad421,A421_0,c421_0,e421,hx421_0,hl421_0,hi421_0⟩:=at_L4 HR1_3.out x6_3 p421 q421
             cases e421
             replace hx421_0:=(HB.out.cell (World.block_lt_of_cell? w _ hx421_0)).trans hx421_0
             have HR421_0:=Aside0.mk hi421_0
             have HC421_0:=Aside0.mk hl421_0
             clear hi421_0 hl421_0
             replace p421:=eq_true p421
             replace q421:=eq_true q421
             go_wp2_with (fail)
             repeat (go_quiet ((go_at_call 34;(with_reducible refine (berthref20_sameNums.calls k3 _ _ (cZx l0_3 x6_3) _ _ (cZx l1_3 x6_3) true _ ?side1 ?side2 ?side3 ?side4 A52.out).mono ?_);(case side1=>repeat (first|exact (Kd.C_below HR420_0.out HB.out)|(with_reducible refine Kd.C_drewN ?_ _)));(case side2=>exact HC420_0.out);(case side3=>repeat (first|exact (Kd.C_below HR421_0.out HB.out)|(with_reducible refine Kd.C_drewN ?_ _)));(case side4=>exact HC421_0.out);rintro e w' ⟨rfl,⟨nd,rfl⟩⟩;(try exact ⟨rfl,_,World.drewN_drewN _ _ _⟩)));try go_wp2_with (fail))
             go_roundg k3
             case measure=>have:=HJ2.out;have:=HK2.out;have:=HK3.out;omega
             case rel=>exact ⟨(wrap64 (x6_3+1)),(by rfl),H',⟨by have:=HJ2.out;have:=HK2.out;have:=HK3.out;omega⟩,⟨by (with_reducible repeat (refine aZE ?_ _));exact BK413.out⟩,⟨by (with_reducible repeat (refine aZE ?_ _));exact BK414.out⟩,⟨by repeat ((with_reducible first|exact HB.out|apply aZa))⟩⟩
            ·
             replace c53:=Bool.eq_false_iff.mpr c53
             subst c53
             have H1:(some false)=some r:=by rw [if_neg (show ¬(false=true) by decide)] at H;exact H
             clear H
             have H:=H1
             clear H1
             obtain rfl:=Option.some.inj H
             have hnb57:=NB413_414.out
             have hnc57:=NB414_413.out
             have hcz58_0:wr.cell? ⟨gb413,0,none⟩=some (.slice A0_0 l0_0.length c0_0):=(aZc BK413.out 0).trans rfl
             have hcz58_1:wr.cell? ⟨gb413,1,none⟩=some (.slice A0_1 l0_1.length c0_1):=(aZc BK413.out 1).trans rfl
             have hcz58_2:wr.cell? ⟨gb413,2,none⟩=some (.slice A0_2 l0_2.length c0_2):=(aZc BK413.out 2).trans rfl
             have hcz58_3:wr.cell? ⟨gb413,3,none⟩=some (.slice A0_3 l0_3.length c0_3):=(aZc BK413.out 3).trans rfl
             have hcz58_4:wr.cell? ⟨gb413,4,none⟩=some (.slice A0_4 l0_4.length c0_4):=(aZc BK413.out 4).trans rfl
             have hcz58_5:wr.cell? ⟨gb413,5,none⟩=some (.int .i64 a0_5):=(aZc BK413.out 5).trans rfl
             have hcz58_6:wr.cell? ⟨gb413,6,none⟩=some (.int .i64 a0_6):=(aZc BK413.out 6).trans rfl
             have p420:0≤(x6_3:Int):=of_decide_eq_true (by (with_reducible assumption))
             have q420:x6_3<(l0_3.length:Int):=of_decide_eq_true (by (with_reducible assumption))
             obtain ⟨ad420,A420_0,c420_0,e420,hx420_0,hl420_0,hi420_0⟩:=at_L4 HR0_3.out x6_3 p420 q420
             cases e420
             replace hx420_0:=(HB.out.cell (World.block_lt_of_cell? w _ hx420_0)).trans hx420_0
             have HR420_0:=Aside0.mk hi420_0
             have HC420_0:=Aside0.mk hl420_0
             clear hi420_0 hl420_0
             replace p420:=eq_true p420
             replace q420:=eq_true q420
             have hcz59_0:wr.cell? ⟨gb414,0,none⟩=some (.slice A1_0 l1_0.length c1_0):=(aZc BK414.out 0).trans rfl
             have hcz59_1:wr.cell? ⟨gb414,1,none⟩=some (.slice A1_1 l1_1.length c1_1):=(aZc BK414.out 1).trans rfl
             have hcz59_2:wr.cell? ⟨gb414,2,none⟩=some (.slice A1_2 l1_2.length c1_2):=(aZc BK414.out 2).trans rfl
             have hcz59_3:wr.cell? ⟨gb414,3,none⟩=some (.slice A1_3 l1_3.length c1_3):=(aZc BK414.out 3).trans rfl
             have hcz59_4:wr.cell? ⟨gb414,4,none⟩=some (.slice A1_4 l1_4.length c1_4):=(aZc BK414.out 4).trans rfl
             have hcz59_5:wr.cell? ⟨gb414,5,none⟩=some (.int .i64 a1_5):=(aZc BK414.out 5).trans rfl
             have hcz59_6:wr.cell? ⟨gb414,6,none⟩=some (.int .i64 a1_6):=(aZc BK414.out 6).trans rfl
             have p421:0≤(x6_3:Int):=of_decide_eq_true (by (with_reducible assumption))
             have q421:x6_3<(l1_3.length:Int):=of_decide_eq_true (by (with_reducible assumption))
             obtain ⟨ad421,A421_0,c421_0,e421,hx421_0,hl421_0,hi421_0⟩:=at_L4 HR1_3.out x6_3 p421 q421
             cases e421
             replace hx421_0:=(HB.out.cell (World.block_lt_of_cell? w _ hx421_0)).trans hx421_0
             have HR421_0:=Aside0.mk hi421_0
             have HC421_0:=Aside0.mk hl421_0
             clear hi421_0 hl421_0
             replace p421:=eq_true p421
             replace q421:=eq_true q421
             go_wp2_with (fail)
             repeat (go_quiet ((go_at_call 34;(with_reducible refine (berthref20_sameNums.calls k3 _ _ (cZx l0_3 x6_3) _ _ (cZx l1_3 x6_3) false _ ?side1 ?side2 ?side3 ?side4 A52.out).mono ?_);(case side1=>repeat (first|exact (Kd.C_below HR420_0.out HB.out)|(with_reducible refine Kd.C_drewN ?_ _)));(case side2=>exact HC420_0.out);(case side3=>repeat (first|exact (Kd.C_below HR421_0.out HB.out)|(with_reducible refine Kd.C_drewN ?_ _)));(case side4=>exact HC421_0.out);rintro e w' ⟨rfl,⟨nd,rfl⟩⟩;(try exact ⟨rfl,_,World.drewN_drewN _ _ _⟩)));try go_wp2_with (fail))
             go_ret
             exact ⟨by rfl,by repeat ((with_reducible first|exact HB.out|apply aZa))⟩
           ·
            rw [if_neg c51] at H
            exact absurd H (by simp)
          ·
           rw [if_neg c50] at H
           exact absurd H (by simp)
         ·
          rw [if_neg c49] at H
          have c49b0:decide (x6_3<(l0_3.length:Int))=false:=decide_eq_false c49
          clear c49
          have H':=Aside0.mk H
          clear H
          have hnb60:=NB413_414.out
          have hnc60:=NB414_413.out
          have hcz61_0:wr.cell? ⟨gb413,0,none⟩=some (.slice A0_0 l0_0.length c0_0):=(aZc BK413.out 0).trans rfl
          have hcz61_1:wr.cell? ⟨gb413,1,none⟩=some (.slice A0_1 l0_1.length c0_1):=(aZc BK413.out 1).trans rfl
          have hcz61_2:wr.cell? ⟨gb413,2,none⟩=some (.slice A0_2 l0_2.length c0_2):=(aZc BK413.out 2).trans rfl
          have hcz61_3:wr.cell? ⟨gb413,3,none⟩=some (.slice A0_3 l0_3.length c0_3):=(aZc BK413.out 3).trans rfl
          have hcz61_4:wr.cell? ⟨gb413,4,none⟩=some (.slice A0_4 l0_4.length c0_4):=(aZc BK413.out 4).trans rfl
          have hcz61_5:wr.cell? ⟨gb413,5,none⟩=some (.int .i64 a0_5):=(aZc BK413.out 5).trans rfl
          have hcz61_6:wr.cell? ⟨gb413,6,none⟩=some (.int .i64 a0_6):=(aZc BK413.out 6).trans rfl
          go_wp2
          repeat (go_quiet (fail);try go_wp2)
          go_loopg [7] k3 (fun kq v7 w'=>∃ (x7_4:Int),v7=.int .i64 x7_4∧Aside0 (berthref20_Same.l2 kq x7_4 l0_0 l0_1 l0_2 l0_3 l0_4 a0_5 a0_6 l1_0 l1_1 l1_2 l1_3 l1_4 a1_5 a1_6=some r)∧Aside0 (kq≤k3)∧Aside0 (w'.heap[gb413]?=some (.cells #[(.slice A0_0 l0_0.length c0_0),(.slice A0_1 l0_1.length c0_1),(.slice A0_2 l0_2.length c0_2),(.slice A0_3 l0_3.length c0_3),(.slice A0_4 l0_4.length c0_4),.int .i64 a0_5,.int .i64 a0_6] 28 (0,0)))∧Aside0 (w'.heap[gb414]?=some (.cells #[(.slice A1_0 l1_0.length c1_0),(.slice A1_1 l1_1.length c1_1),(.slice A1_2 l1_2.length c1_2),(.slice A1_3 l1_3.length c1_3),(.slice A1_4 l1_4.length c1_4),.int .i64 a1_5,.int .i64 a1_6] 28 (0,0)))∧Aside0 (Below w.heap.size w w'))
          case atStart=>exact ⟨(0),(by rfl),H',⟨Nat.le_refl _⟩,⟨by (with_reducible repeat (fail));exact BK413.out⟩,⟨by (with_reducible repeat (fail));exact BK414.out⟩,⟨by repeat ((with_reducible exact HB.out))⟩⟩
          case round =>
           clear H'
           clear hcz61_0 hcz61_1 hcz61_2 hcz61_3 hcz61_4 hcz61_5 hcz61_6
           try clear c49b0
           obtain ⟨x7_4,rfl,HA,HK4,BK413,BK414,HB⟩:=hrel
           cases gk with
           | zero=>exact absurd HA.out (by simp [berthref20_Same.l2])
           | succ k4 =>
            have H:=HA.out
            clear HA
            simp only [berthref20_Same.l2] at H
            by_cases c62:x7_4<(l0_4.length:Int)
            ·
             rw [if_pos c62] at H
             have c62b0:decide (x7_4<(l0_4.length:Int))=true:=decide_eq_true c62
             clear c62
             by_cases c63:0≤x7_4
             ·
              rw [if_pos c63] at H
              have c63b0:decide (0≤x7_4)=true:=decide_eq_true c63
              clear c63
              by_cases c64:x7_4<(l1_4.length:Int)
              ·
               rw [if_pos c64] at H
               have c64b0:decide (x7_4<(l1_4.length:Int))=true:=decide_eq_true c64
               clear c64
               by_cases c65:(!(((aZg l0_4 x7_4).f0) == ((aZg l1_4 x7_4).f0)) || (!(((aZg l0_4 x7_4).f1) == ((aZg l1_4 x7_4).f1)) || (!(((aZg l0_4 x7_4).f2) == ((aZg l1_4 x7_4).f2)) || (!(((aZg l0_4 x7_4).f3) == ((aZg l1_4 x7_4).f3))))))=true
               ·
                rw [if_pos c65] at H
                have c65b0:(!(((aZg l0_4 x7_4).f0) == ((aZg l1_4 x7_4).f0)) || (!(((aZg l0_4 x7_4).f1) == ((aZg l1_4 x7_4).f1)) || (!(((aZg l0_4 x7_4).f2) == ((aZg l1_4 x7_4).f2)) || (!(((aZg l0_4 x7_4).f3) == ((aZg l1_4 x7_4).f3))))))=true:=c65
                clear c65
                obtain rfl:=Option.some.inj H
                have hnb66:=NB413_414.out
                have hnc66:=NB414_413.out
                have hcz67_0:wr.cell? ⟨gb413,0,none⟩=some (.slice A0_0 l0_0.length c0_0):=(aZc BK413.out 0).trans rfl
                have hcz67_1:wr.cell? ⟨gb413,1,none⟩=some (.slice A0_1 l0_1.length c0_1):=(aZc BK413.out 1).trans rfl
                have hcz67_2:wr.cell? ⟨gb413,2,none⟩=some (.slice A0_2 l0_2.length c0_2):=(aZc BK413.out 2).trans rfl
                have hcz67_3:wr.cell? ⟨gb413,3,none⟩=some (.slice A0_3 l0_3.length c0_3):=(aZc BK413.out 3).trans rfl
                have hcz67_4:wr.cell? ⟨gb413,4,none⟩=some (.slice A0_4 l0_4.length c0_4):=(aZc BK413.out 4).trans rfl
                have hcz67_5:wr.cell? ⟨gb413,5,none⟩=some (.int .i64 a0_5):=(aZc BK413.out 5).trans rfl
                have hcz67_6:wr.cell? ⟨gb413,6,none⟩=some (.int .i64 a0_6):=(aZc BK413.out 6).trans rfl
                have p423:0≤(x7_4:Int):=of_decide_eq_true (by (with_reducible assumption))
                have q423:x7_4<(l0_4.length:Int):=of_decide_eq_true (by (with_reducible assumption))
                obtain ⟨ad423,e423,hx423_0,hx423_1,hx423_2,hx423_3⟩:=eZd HR0_4.out x7_4 p423 q423
                cases e423
                replace hx423_0:=(HB.out.cell (World.block_lt_of_cell? w _ hx423_0)).trans hx423_0
                replace hx423_1:=(HB.out.cell (World.block_lt_of_cell? w _ hx423_1)).trans hx423_1
                replace hx423_2:=(HB.out.cell (World.block_lt_of_cell? w _ hx423_2)).trans hx423_2
                replace hx423_3:=(HB.out.cell (World.block_lt_of_cell? w _ hx423_3)).trans hx423_3
                replace p423:=eq_true p423
                replace q423:=eq_true q423
                have hcz68_0:wr.cell? ⟨gb414,0,none⟩=some (.slice A1_0 l1_0.length c1_0):=(aZc BK414.out 0).trans rfl
                have hcz68_1:wr.cell? ⟨gb414,1,none⟩=some (.slice A1_1 l1_1.length c1_1):=(aZc BK414.out 1).trans rfl
                have hcz68_2:wr.cell? ⟨gb414,2,none⟩=some (.slice A1_2 l1_2.length c1_2):=(aZc BK414.out 2).trans rfl
                have hcz68_3:wr.cell? ⟨gb414,3,none⟩=some (.slice A1_3 l1_3.length c1_3):=(aZc BK414.out 3).trans rfl
                have hcz68_4:wr.cell? ⟨gb414,4,none⟩=some (.slice A1_4 l1_4.length c1_4):=(aZc BK414.out 4).trans rfl
                have hcz68_5:wr.cell? ⟨gb414,5,none⟩=some (.int .i64 a1_5):=(aZc BK414.out 5).trans rfl
                have hcz68_6:wr.cell? ⟨gb414,6,none⟩=some (.int .i64 a1_6):=(aZc BK414.out 6).trans rfl
                have p424:0≤(x7_4:Int):=of_decide_eq_true (by (with_reducible assumption))
                have q424:x7_4<(l1_4.length:Int):=of_decide_eq_true (by (with_reducible assumption))
                obtain ⟨ad424,e424,hx424_0,hx424_1,hx424_2,hx424_3⟩:=eZd HR1_4.out x7_4 p424 q424
                cases e424
                replace hx424_0:=(HB.out.cell (World.block_lt_of_cell? w _ hx424_0)).trans hx424_0
                replace hx424_1:=(HB.out.cell (World.block_lt_of_cell? w _ hx424_1)).trans hx424_1
                replace hx424_2:=(HB.out.cell (World.block_lt_of_cell? w _ hx424_2)).trans hx424_2
                replace hx424_3:=(HB.out.cell (World.block_lt_of_cell? w _ hx424_3)).trans hx424_3
                replace p424:=eq_true p424
                replace q424:=eq_true q424
                go_wp2
                repeat (go_quiet (fail);try go_wp2)
                go_ret
                exact ⟨by rfl,by repeat ((with_reducible first|exact HB.out|apply aZa))⟩
               ·
                rw [if_neg c65] at H
                have c65b0:(!(((aZg l0_4 x7_4).f0) == ((aZg l1_4 x7_4).f0)) || (!(((aZg l0_4 x7_4).f1) == ((aZg l1_4 x7_4).f1)) || (!(((aZg l0_4 x7_4).f2) == ((aZg l1_4 x7_4).f2)) || (!(((aZg l0_4 x7_4).f3) == ((aZg l1_4 x7_4).f3))))))=false:=by simpa using c65
                clear c65
                have H':=Aside0.mk H
                clear H
                have hnb69:=NB413_414.out
                have hnc69:=NB414_413.out
                have hcz70_0:wr.cell? ⟨gb413,0,none⟩=some (.slice A0_0 l0_0.length c0_0):=(aZc BK413.out 0).trans rfl
                have hcz70_1:wr.cell? ⟨gb413,1,none⟩=some (.slice A0_1 l0_1.length c0_1):=(aZc BK413.out 1).trans rfl
                have hcz70_2:wr.cell? ⟨gb413,2,none⟩=some (.slice A0_2 l0_2.length c0_2):=(aZc BK413.out 2).trans rfl
                have hcz70_3:wr.cell? ⟨gb413,3,none⟩=some (.slice A0_3 l0_3.length c0_3):=(aZc BK413.out 3).trans rfl
                have hcz70_4:wr.cell? ⟨gb413,4,none⟩=some (.slice A0_4 l0_4.length c0_4):=(aZc BK413.out 4).trans rfl
                have hcz70_5:wr.cell? ⟨gb413,5,none⟩=some (.int .i64 a0_5):=(aZc BK413.out 5).trans rfl
                have hcz70_6:wr.cell? ⟨gb413,6,none⟩=some (.int .i64 a0_6):=(aZc BK413.out 6).trans rfl
                have p423:0≤(x7_4:Int):=of_decide_eq_true (by (with_reducible assumption))
                have q423:x7_4<(l0_4.length:Int):=of_decide_eq_true (by (with_reducible assumption))
                obtain ⟨ad423,e423,hx423_0,hx423_1,hx423_2,hx423_3⟩:=eZd HR0_4.out x7_4 p423 q423
                cases e423
                replace hx423_0:=(HB.out.cell (World.block_lt_of_cell? w _ hx423_0)).trans hx423_0
                replace hx423_1:=(HB.out.cell (World.block_lt_of_cell? w _ hx423_1)).trans hx423_1
                replace hx423_2:=(HB.out.cell (World.block_lt_of_cell? w _ hx423_2)).trans hx423_2
                replace hx423_3:=(HB.out.cell (World.block_lt_of_cell? w _ hx423_3)).trans hx423_3
                replace p423:=eq_true p423
                replace q423:=eq_true q423
                have hcz71_0:wr.cell? ⟨gb414,0,none⟩=some (.slice A1_0 l1_0.length c1_0):=(aZc BK414.out 0).trans rfl
                have hcz71_1:wr.cell? ⟨gb414,1,none⟩=some (.slice A1_1 l1_1.length c1_1):=(aZc BK414.out 1).trans rfl
                have hcz71_2:wr.cell? ⟨gb414,2,none⟩=some (.slice A1_2 l1_2.length c1_2):=(aZc BK414.out 2).trans rfl
                have hcz71_3:wr.cell? ⟨gb414,3,none⟩=some (.slice A1_3 l1_3.length c1_3):=(aZc BK414.out 3).trans rfl
                have hcz71_4:wr.cell? ⟨gb414,4,none⟩=some (.slice A1_4 l1_4.length c1_4):=(aZc BK414.out 4).trans rfl
                have hcz71_5:wr.cell? ⟨gb414,5,none⟩=some (.int .i64 a1_5):=(aZc BK414.out 5).trans rfl
                have hcz71_6:wr.cell? ⟨gb414,6,none⟩=some (.int .i64 a1_6):=(aZc BK414.out 6).trans rfl
                have p424:0≤(x7_4:Int):=of_decide_eq_true (by (with_reducible assumption))
                have q424:x7_4<(l1_4.length:Int):=of_decide_eq_true (by (with_reducible assumption))
                obtain ⟨ad424,e424,hx424_0,hx424_1,hx424_2,hx424_3⟩:=eZd HR1_4.out x7_4 p424 q424
                cases e424
                replace hx424_0:=(HB.out.cell (World.block_lt_of_cell? w _ hx424_0)).trans hx424_0
                replace hx424_1:=(HB.out.cell (World.block_lt_of_cell? w _ hx424_1)).trans hx424_1
                replace hx424_2:=(HB.out.cell (World.block_lt_of_cell? w _ hx424_2)).trans hx424_2
                replace hx424_3:=(HB.out.cell (World.block_lt_of_cell? w _ hx424_3)).trans hx424_3
                replace p424:=eq_true p424
                replace q424:=eq_true q424
                go_wp2
                repeat (go_quiet (fail);try go_wp2)
                go_roundg k4
                case measure=>have:=HJ2.out;have:=HK2.out;have:=HK3.out;have:=HK4.out;omega
                case rel=>exact ⟨(wrap64 (x7_4+1)),(by rfl),H',⟨by have:=HJ2.out;have:=HK2.out;have:=HK3.out;have:=HK4.out;omega⟩,⟨by (with_reducible repeat (refine aZE ?_ _));exact BK413.out⟩,⟨by (with_reducible repeat (refine aZE ?_ _));exact BK414.out⟩,⟨by repeat ((with_reducible first|exact HB.out|apply aZa))⟩⟩
              ·
               rw [if_neg c64] at H
               exact absurd H (by simp)
             ·
              rw [if_neg c63] at H
              exact absurd H (by simp)
            ·
             rw [if_neg c62] at H
             have c62b0:decide (x7_4<(l0_4.length:Int))=false:=decide_eq_false c62
             clear c62
             obtain rfl:=Option.some.inj H
             have hnb72:=NB413_414.out
             have hnc72:=NB414_413.out
             have hcz73_0:wr.cell? ⟨gb413,0,none⟩=some (.slice A0_0 l0_0.length c0_0):=(aZc BK413.out 0).trans rfl
             have hcz73_1:wr.cell? ⟨gb413,1,none⟩=some (.slice A0_1 l0_1.length c0_1):=(aZc BK413.out 1).trans rfl
             have hcz73_2:wr.cell? ⟨gb413,2,none⟩=some (.slice A0_2 l0_2.length c0_2):=(aZc BK413.out 2).trans rfl
             have hcz73_3:wr.cell? ⟨gb413,3,none⟩=some (.slice A0_3 l0_3.length c0_3):=(aZc BK413.out 3).trans rfl
             have hcz73_4:wr.cell? ⟨gb413,4,none⟩=some (.slice A0_4 l0_4.length c0_4):=(aZc BK413.out 4).trans rfl
             have hcz73_5:wr.cell? ⟨gb413,5,none⟩=some (.int .i64 a0_5):=(aZc BK413.out 5).trans rfl
             have hcz73_6:wr.cell? ⟨gb413,6,none⟩=some (.int .i64 a0_6):=(aZc BK413.out 6).trans rfl
             go_wp2
             repeat (go_quiet (fail);try go_wp2)
             go_ret
             exact ⟨by rfl,by repeat ((with_reducible exact HB.out))⟩
end Go.Proofs.Ytbnplhmmbnmagaa.All
