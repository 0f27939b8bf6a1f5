/- A part of the proof of AuditPrograms: walks written by a program of this session. -/
import Derived.Test.YtbnplhmmbnmagaazAGm2
set_option maxHeartbeats 4000000
set_option maxRecDepth 100000
set_option linter.unusedVariables false
set_option linter.unusedSimpArgs false
namespace Go.Proofs.Ytbnplhmmbnmagaa.All
open Go.RowKit Go.Proofs.YtbnplhmmbnmagaaW.PrintWords Go.Proofs.YtbnplhmmbnmagaaW.PrintLast Go.Proofs.YtbnplhmmbnmagaaW.PrintMore
attribute [local go_sem] bZO bZM cZa bZ9 bZj bZi bZN bZL
attribute [local go_sem] Go.Proofs.YtbnplhmmbnmagaaX.binOp_leq Go.Proofs.YtbnplhmmbnmagaaX.binOp_geq Go.Proofs.YtbnplhmmbnmagaaX.binOp_gtr
mutual
def berthref20_Copy.l0:Nat→Int→List ByteArray→List Int→List (List ByteArray)→List (List Int)→List (S66)→Int→Int→List ByteArray→List Int→List (List ByteArray)→List (S66)→Int→Int→Option (List ByteArray × List Int × (List (List ByteArray)) × (List (List Int)) × (List (S66)) × Int × Int)
  | 0,_,_,_,_,_,_,_,_,_,_,_,_,_,_=>none
  | k+1,x4,x134000,x134001,x134002,x134003,x134004,x134005,x134006,x136000,x136001,x136002,x136004,x136005,x136006=>if x4<(x134002.length:Int) then ((some (([]:List ByteArray):List ByteArray)).bind fun y145=>(if 0≤x4 then (if y145.length+(cZR x134002 x4).length<8796093022208 then (if x136002.length<5864062014805 then (berthref20_Copy.l0 k (wrap64 (x4+1)) x134000 x134001 x134002 x134003 x134004 x134005 x134006 x136000 x136001 (x136002++[(y145++(cZR x134002 x4))]) x136004 x136005 x136006) else (none)) else (none)) else (none))) else (berthref20_Copy.l1 k 0 x134000 x134001 x134002 x134003 x134004 x134005 x134006 x136000 x136001 x136002 ([]:List (List Int)) x136004 x136005 x136006)
def berthref20_Copy.l1:Nat→Int→List ByteArray→List Int→List (List ByteArray)→List (List Int)→List (S66)→Int→Int→List ByteArray→List Int→List (List ByteArray)→List (List Int)→List (S66)→Int→Int→Option (List ByteArray × List Int × (List (List ByteArray)) × (List (List Int)) × (List (S66)) × Int × Int)
  | 0,_,_,_,_,_,_,_,_,_,_,_,_,_,_,_=>none
  | k+1,x5,x134000,x134001,x134002,x134003,x134004,x134005,x134006,x136000,x136001,x136002,x136003,x136004,x136005,x136006=>if x5<(x134003.length:Int) then ((some (([]:List Int):List Int)).bind fun y155=>(if 0≤x5 then (if y155.length+(cZQ x134003 x5).length<17592186044416 then (if x136003.length<5864062014805 then (berthref20_Copy.l1 k (wrap64 (x5+1)) x134000 x134001 x134002 x134003 x134004 x134005 x134006 x136000 x136001 x136002 (x136003++[(y155++(cZQ x134003 x5))]) x136004 x136005 x136006) else (none)) else (none)) else (none))) else (some (x136000,x136001,x136002,x136003,x136004,x136005,x136006))
end
def berthref20_Copy.f (k:Nat) (l0_0:List ByteArray) (l0_1:List Int) (l0_2:List (List ByteArray)) (l0_3:List (List Int)) (l0_4:List (S66)) (a0_5:Int) (a0_6:Int):Option (List ByteArray × List Int × (List (List ByteArray)) × (List (List Int)) × (List (S66)) × Int × Int):=if ([]:List ByteArray).length+l0_0.length<8796093022208 then (if ([]:List Int).length+l0_1.length<17592186044416 then (if ([]:List (S66)).length+l0_4.length<4398046511104 then (berthref20_Copy.l0 k 0 l0_0 l0_1 l0_2 l0_3 l0_4 a0_5 a0_6 (([]:List ByteArray)++l0_0) (([]:List Int)++l0_1) ([]:List (List ByteArray)) (([]:List (S66))++l0_4) a0_5 a0_6) else (none)) else (none)) else (none)
def berthref20_Copy.T8:Bool × List (List Nat × List Nat):=(true,[([],[]),([0],[0]),([],[]),([],[]),([3],[3]),([],[]),([4,5],[4,5]),([6],[6]),([2,7],[2,7]),([8],[8]),([1,9,8],[1,9]),([0,1,2,3,4,5,6,7,8,9,10],[]),([11,10,10,0,1,2,3,4,5,6,7,8,9,10],[10,11])])
def berthref20_Copy.B8:List Nat:=[0,1,0,0,8,0,56,120,252,508,1023,2047,4095]
theorem berthref20_Copy.tab8:rtab .any (cZF Try.f12 8)=berthref20_Copy.T8:=by kernel_rfl
theorem berthref20_Copy.bits8:bZZ berthref20_Copy.T8.2 berthref20_Copy.B8=true:=by kernel_rfl
def berthref20_Copy.T12:Bool × List (List Nat × List Nat):=(true,[([],[]),([0],[0]),([],[]),([],[]),([3],[3]),([],[]),([4,5],[4,5]),([6],[6]),([2,7],[2,7]),([8],[8]),([1,9,8],[1,9]),([0,1,2,3,4,5,6,7,8,9,10],[]),([11,10,10,0,1,2,3,4,5,6,7,8,9,10],[10,11])])
def berthref20_Copy.B12:List Nat:=[0,1,0,0,8,0,56,120,252,508,1023,2047,4095]
theorem berthref20_Copy.tab12:rtab .any (cZF Try.f12 12)=berthref20_Copy.T12:=by kernel_rfl
theorem berthref20_Copy.bits12:bZZ berthref20_Copy.T12.2 berthref20_Copy.B12=true:=by kernel_rfl
theorem berthref20_Copy.calls (k:Nat) (A0_0:Option Addr) (c0_0:Nat) (l0_0:List ByteArray) (A0_1:Option Addr) (c0_1:Nat) (l0_1:List Int) (A0_2:Option Addr) (c0_2:Nat) (l0_2:List (List ByteArray)) (A0_3:Option Addr) (c0_3:Nat) (l0_3:List (List Int)) (A0_4:Option Addr) (c0_4:Nat) (l0_4:List (S66)) (a0_5:Int) (a0_6:Int) (r1:List ByteArray) (r2:List Int) (r3:List (List ByteArray)) (r4:List (List Int)) (r5:List (S66)) (r6:Int) (r7:Int) (w:World) (hr0_0:Kd.C Kd.string w A0_0 l0_0.length l0_0) (hc0_0:l0_0.length≤c0_0) (hr0_1:Kd.C (Kd.int .i64) w A0_1 l0_1.length l0_1) (hc0_1:l0_1.length≤c0_1) (hr0_2:Kd.C (Kd.slice 9 Kd.string) w A0_2 l0_2.length l0_2) (hc0_2:l0_2.length≤c0_2) (hr0_3:Kd.C (Kd.slice 3 (Kd.int .i64)) w A0_3 l0_3.length l0_3) (hc0_3:l0_3.length≤c0_3) (hr0_4:Kd.C k66 w A0_4 l0_4.length l0_4) (hc0_4:l0_4.length≤c0_4) (h:berthref20_Copy.f k l0_0 l0_1 l0_2 l0_3 l0_4 a0_5 a0_6=some (r1,r2,r3,r4,r5,r6,r7)) :
 Calls Try.prog 12 #[.agg #[.slice A0_0 l0_0.length c0_0,.slice A0_1 l0_1.length c0_1,.slice A0_2 l0_2.length c0_2,.slice A0_3 l0_3.length c0_3,.slice A0_4 l0_4.length c0_4,.int .i64 a0_5,.int .i64 a0_6]] w fun e w'=>∃ v0_ v1_ v2_ v3_ v4_:Value,e=.returned (.agg #[v0_,v1_,v2_,v3_,v4_,.int .i64 r6,.int .i64 r7])∧Kd.R Kd.string 9 w' w.heap.size (fun _=>True) v0_ r1∧Kd.R (Kd.int .i64) 3 w' w.heap.size (fun _=>True) v1_ r2∧Kd.S (Kd.slice 9 Kd.string) 22 w' w.heap.size (fun k_=>some k_≠(v0_:Value).ownBlock) v2_ r3∧Kd.S (Kd.slice 3 (Kd.int .i64)) 23 w' w.heap.size (fun k_=>some k_≠(v1_:Value).ownBlock) v3_ r4∧Kd.R k66 66 w' w.heap.size (fun _=>True) v4_ r5∧Below w.heap.size w w':=by
 have hu28:=Try.underlying28
 have HR0_0:=Aside0.mk hr0_0
 have HC0_0:=Aside0.mk hc0_0
 clear hr0_0 hc0_0
 have HR0_1:=Aside0.mk hr0_1
 have HC0_1:=Aside0.mk hc0_1
 clear hr0_1 hc0_1
 have HR0_2:=Aside0.mk hr0_2
 have HC0_2:=Aside0.mk hc0_2
 clear hr0_2 hc0_2
 have HR0_3:=Aside0.mk hr0_3
 have HC0_3:=Aside0.mk hc0_3
 clear hr0_3 hc0_3
 have HR0_4:=Aside0.mk hr0_4
 have HC0_4:=Aside0.mk hc0_4
 clear hr0_4 hc0_4
 have HB:=Aside0.mk (Below.refl w.heap.size w)
 have H:(if ([]:List ByteArray).length+l0_0.length<8796093022208 then (if ([]:List Int).length+l0_1.length<17592186044416 then (if ([]:List (S66)).length+l0_4.length<4398046511104 then (berthref20_Copy.l0 k 0 l0_0 l0_1 l0_2 l0_3 l0_4 a0_5 a0_6 (([]:List ByteArray)++l0_0) (([]:List Int)++l0_1) ([]:List (List ByteArray)) (([]:List (S66))++l0_4) a0_5 a0_6) else (none)) else (none)) else (none))=some (r1,r2,r3,r4,r5,r6,r7):=h
 clear h
 by_cases c2:([]:List ByteArray).length+l0_0.length<8796093022208
 ·
  rw [if_pos c2] at H
  have LMc2:=Aside0.mk c2
  clear c2
  obtain ⟨y136,hy136⟩:∃ y_:List ByteArray,y_=(([]:List ByteArray)++l0_0):=⟨_,rfl⟩
  replace H:(if ([]:List Int).length+l0_1.length<17592186044416 then (if ([]:List (S66)).length+l0_4.length<4398046511104 then (berthref20_Copy.l0 k 0 l0_0 l0_1 l0_2 l0_3 l0_4 a0_5 a0_6 y136 (([]:List Int)++l0_1) ([]:List (List ByteArray)) (([]:List (S66))++l0_4) a0_5 a0_6) else (none)) else (none))=some (r1,r2,r3,r4,r5,r6,r7):=by first|(rw [hy136];with_reducible exact H)|(have H2_:=(Option.bind_some _ _).symm.trans H;rw [hy136];with_reducible exact H2_)|(have H2_:=(Option.bind_some _ _).symm.trans H;with_reducible exact H2_)|with_reducible exact H|(rw [hy136];exact H)|exact H
  have Ny136:=Aside0.mk hy136
  clear hy136
  by_cases c3:([]:List Int).length+l0_1.length<17592186044416
  ·
   rw [if_pos c3] at H
   have LMc3:=Aside0.mk c3
   clear c3
   obtain ⟨y139,hy139⟩:∃ y_:List Int,y_=(([]:List Int)++l0_1):=⟨_,rfl⟩
   replace H:(if ([]:List (S66)).length+l0_4.length<4398046511104 then (berthref20_Copy.l0 k 0 l0_0 l0_1 l0_2 l0_3 l0_4 a0_5 a0_6 y136 y139 ([]:List (List ByteArray)) (([]:List (S66))++l0_4) a0_5 a0_6) else (none))=some (r1,r2,r3,r4,r5,r6,r7):=by first|(rw [hy139];with_reducible exact H)|(have H2_:=(Option.bind_some _ _).symm.trans H;rw [hy139];with_reducible exact H2_)|(have H2_:=(Option.bind_some _ _).symm.trans H;with_reducible exact H2_)|with_reducible exact H|(rw [hy139];exact H)|exact H
   have Ny139:=Aside0.mk hy139
   clear hy139
   by_cases c4:([]:List (S66)).length+l0_4.length<4398046511104
   ·
    rw [if_pos c4] at H
    have LMc4:=Aside0.mk c4
    clear c4
    obtain ⟨y142,hy142⟩:∃ y_:List (S66),y_=(([]:List (S66))++l0_4):=⟨_,rfl⟩
    replace H:(berthref20_Copy.l0 k 0 l0_0 l0_1 l0_2 l0_3 l0_4 a0_5 a0_6 y136 y139 ([]:List (List ByteArray)) y142 a0_5 a0_6)=some (r1,r2,r3,r4,r5,r6,r7):=by first|(rw [hy142];with_reducible exact H)|(have H2_:=(Option.bind_some _ _).symm.trans H;rw [hy142];with_reducible exact H2_)|(have H2_:=(Option.bind_some _ _).symm.trans H;with_reducible exact H2_)|with_reducible exact H|(rw [hy142];exact H)|exact H
    have Ny142:=Aside0.mk hy142
    clear hy142
    have H':=Aside0.mk H
    clear H
    go_enter Try.func12,Try.ntmps12
    go_wp2_with (first|((with_reducible refine aZr (N:=1) rfl ?_);refine aZy ?hg (N:=1) ?hd (cs:=#[.slice A0_0 l0_0.length c0_0,.slice A0_1 l0_1.length c0_1,.slice A0_2 l0_2.length c0_2,.slice A0_3 l0_3.length c0_3,.slice A0_4 l0_4.length c0_4,.int .i64 a0_5,.int .i64 a0_6]) (t:=28) ?hr ?_;(case hd=>rfl);(case hg=>rfl);(case hr=>first|(go_simp;done)|(go_simp;rfl));intro gb133 hg w5 hbox hb;have n0_:=Aside0.mk (aZo (by repeat (first|(with_reducible first|exact HB.out|apply aZb|apply aZa|apply aZc)|exact HB.out)) hb);have n1_:=Aside0.mk (hbox);have n2_:=Aside0.mk ((by rw [hg];exact (aZl (by repeat (first|(with_reducible first|exact HB.out|apply aZb|apply aZa|apply aZc)|exact HB.out))):w.heap.size≤gb133));have n3_:=Aside0.mk ((by rw [hg];exact (aZl (by repeat (first|(with_reducible first|exact HB.out|apply aZb|apply aZa|apply aZc)|exact HB.out))):w.heap.size≤gb133));clear HB;have HB:=n0_;have BK133:=n1_;have GW133:=n2_;have GE133:=n3_;clear n0_ n1_ n2_ n3_;clear hb hbox hg)|((with_reducible refine aZr (N:=2) rfl ?_);refine aZy ?hg (N:=2) ?hd (cs:=#[.slice none 0 0,.slice none 0 0,.slice none 0 0,.slice none 0 0,.slice none 0 0,.int .i64 0,.int .i64 0]) (t:=28) ?hr ?_;(case hd=>rfl);(case hg=>rfl);(case hr=>first|(go_simp;done)|(go_simp;rfl));intro gb134 hg w6 hbox hb;have n0_:=Aside0.mk (aZN (g:=gb133) (o:=.cells #[.slice A0_0 l0_0.length c0_0,.slice A0_1 l0_1.length c0_1,.slice A0_2 l0_2.length c0_2,.slice A0_3 l0_3.length c0_3,.slice A0_4 l0_4.length c0_4,.int .i64 a0_5,.int .i64 a0_6] 28 (0,0)) (by (with_reducible repeat (first|refine aZi ?_ _|refine aZj ?_|refine aZh ?_ _));exact BK133.out) hb);have n1_:=Aside0.mk (aZo (by repeat (first|(with_reducible first|exact HB.out|apply aZb|apply aZa|apply aZc|refine aZf ?_ GE133.out)|exact HB.out)) hb);have n2_:=Aside0.mk (hbox);have n3_:=Aside0.mk ((by rw [hg];exact (aZl (by repeat (first|(with_reducible first|exact HB.out|apply aZb|apply aZa|apply aZc|refine aZf ?_ GE133.out)|exact HB.out))):w.heap.size≤gb134));have n4_:=Aside0.mk ((by rw [hg];exact (aZl (by repeat (first|(with_reducible first|exact HB.out|apply aZb|apply aZa|apply aZc|refine aZf ?_ GE133.out)|exact HB.out))):w.heap.size≤gb134));have n5_:=Aside0.mk ((by rw [hg];exact Nat.ne_of_lt (aZn (g:=gb133) (o:=.cells #[.slice A0_0 l0_0.length c0_0,.slice A0_1 l0_1.length c0_1,.slice A0_2 l0_2.length c0_2,.slice A0_3 l0_3.length c0_3,.slice A0_4 l0_4.length c0_4,.int .i64 a0_5,.int .i64 a0_6] 28 (0,0)) (by (with_reducible repeat (first|refine aZi ?_ _|refine aZj ?_|refine aZh ?_ _));exact BK133.out)):gb133≠gb134));have n6_:=Aside0.mk ((by rw [hg];exact Nat.ne_of_gt (aZn (g:=gb133) (o:=.cells #[.slice A0_0 l0_0.length c0_0,.slice A0_1 l0_1.length c0_1,.slice A0_2 l0_2.length c0_2,.slice A0_3 l0_3.length c0_3,.slice A0_4 l0_4.length c0_4,.int .i64 a0_5,.int .i64 a0_6] 28 (0,0)) (by (with_reducible repeat (first|refine aZi ?_ _|refine aZj ?_|refine aZh ?_ _));exact BK133.out)):gb134≠gb133));clear BK133;clear HB;have BK133:=n0_;have HB:=n1_;have BK134:=n2_;have GW134:=n3_;have GE134:=n4_;have NB133_134:=n5_;have NB134_133:=n6_;clear n0_ n1_ n2_ n3_ n4_ n5_ n6_;clear hb hbox hg;have hnb7:=NB133_134.out;have hnc7:=NB134_133.out;have hcz8_0:w6.cell? ⟨gb133,0,none⟩=some (.slice A0_0 l0_0.length c0_0):=(aZd BK133.out 0).trans rfl;have hcz8_1:w6.cell? ⟨gb133,1,none⟩=some (.slice A0_1 l0_1.length c0_1):=(aZd BK133.out 1).trans rfl;have hcz8_2:w6.cell? ⟨gb133,2,none⟩=some (.slice A0_2 l0_2.length c0_2):=(aZd BK133.out 2).trans rfl;have hcz8_3:w6.cell? ⟨gb133,3,none⟩=some (.slice A0_3 l0_3.length c0_3):=(aZd BK133.out 3).trans rfl;have hcz8_4:w6.cell? ⟨gb133,4,none⟩=some (.slice A0_4 l0_4.length c0_4):=(aZd BK133.out 4).trans rfl;have hcz8_5:w6.cell? ⟨gb133,5,none⟩=some (.int .i64 a0_5):=(aZd BK133.out 5).trans rfl;have hcz8_6:w6.cell? ⟨gb133,6,none⟩=some (.int .i64 a0_6):=(aZd BK133.out 6).trans rfl;have hfz8_0:=aZe BK133.out 0;have hfz8_1:=aZe BK133.out 1;have hfz8_2:=aZe BK133.out 2;have hfz8_3:=aZe BK133.out 3;have hfz8_4:=aZe BK133.out 4;have hfz8_5:=aZe BK133.out 5;have hfz8_6:=aZe BK133.out 6)|((with_reducible refine aZr (N:=3) rfl ?_);refine aZy ?hg (N:=3) ?hd (cs:=#[.slice none 0 0,.slice none 0 0,.slice none 0 0,.slice none 0 0,.slice none 0 0,.int .i64 0,.int .i64 0]) (t:=28) ?hr ?_;(case hd=>rfl);(case hg=>rfl);(case hr=>first|(go_simp;done)|(go_simp;rfl));intro gb135 hg w9 hbox hb;have n0_:=Aside0.mk (aZN (g:=gb133) (o:=.cells #[.slice A0_0 l0_0.length c0_0,.slice A0_1 l0_1.length c0_1,.slice A0_2 l0_2.length c0_2,.slice A0_3 l0_3.length c0_3,.slice A0_4 l0_4.length c0_4,.int .i64 a0_5,.int .i64 a0_6] 28 (0,0)) (by (with_reducible repeat (first|refine aZi ?_ _|refine aZj ?_|refine aZh ?_ _));exact BK133.out) hb);have n1_:=Aside0.mk (aZN (g:=gb134) (o:=.cells #[.slice none 0 0,.slice none 0 0,.slice none 0 0,.slice none 0 0,.slice none 0 0,.int .i64 0,.int .i64 0] 28 (0,0)) (by (with_reducible repeat (first|refine aZi ?_ _|refine aZj ?_|refine aZh ?_ _));exact BK134.out) hb);have n2_:=Aside0.mk (aZo (by repeat (first|(with_reducible first|exact HB.out|apply aZb|apply aZa|apply aZc|refine aZf ?_ GE133.out|refine aZf ?_ GE134.out)|exact HB.out)) hb);have n3_:=Aside0.mk (hbox);have n4_:=Aside0.mk ((by rw [hg];exact (aZl (by repeat (first|(with_reducible first|exact HB.out|apply aZb|apply aZa|apply aZc|refine aZf ?_ GE133.out|refine aZf ?_ GE134.out)|exact HB.out))):w.heap.size≤gb135));have n5_:=Aside0.mk ((by rw [hg];exact (aZl (by repeat (first|(with_reducible first|exact HB.out|apply aZb|apply aZa|apply aZc|refine aZf ?_ GE133.out|refine aZf ?_ GE134.out)|exact HB.out))):w.heap.size≤gb135));have n6_:=Aside0.mk ((by rw [hg];exact Nat.ne_of_lt (aZn (g:=gb133) (o:=.cells #[.slice A0_0 l0_0.length c0_0,.slice A0_1 l0_1.length c0_1,.slice A0_2 l0_2.length c0_2,.slice A0_3 l0_3.length c0_3,.slice A0_4 l0_4.length c0_4,.int .i64 a0_5,.int .i64 a0_6] 28 (0,0)) (by (with_reducible repeat (first|refine aZi ?_ _|refine aZj ?_|refine aZh ?_ _));exact BK133.out)):gb133≠gb135));have n7_:=Aside0.mk ((by rw [hg];exact Nat.ne_of_gt (aZn (g:=gb133) (o:=.cells #[.slice A0_0 l0_0.length c0_0,.slice A0_1 l0_1.length c0_1,.slice A0_2 l0_2.length c0_2,.slice A0_3 l0_3.length c0_3,.slice A0_4 l0_4.length c0_4,.int .i64 a0_5,.int .i64 a0_6] 28 (0,0)) (by (with_reducible repeat (first|refine aZi ?_ _|refine aZj ?_|refine aZh ?_ _));exact BK133.out)):gb135≠gb133));have n8_:=Aside0.mk ((by rw [hg];exact Nat.ne_of_lt (aZn (g:=gb134) (o:=.cells #[.slice none 0 0,.slice none 0 0,.slice none 0 0,.slice none 0 0,.slice none 0 0,.int .i64 0,.int .i64 0] 28 (0,0)) (by (with_reducible repeat (first|refine aZi ?_ _|refine aZj ?_|refine aZh ?_ _));exact BK134.out)):gb134≠gb135));have n9_:=Aside0.mk ((by rw [hg];exact Nat.ne_of_gt (aZn (g:=gb134) (o:=.cells #[.slice none 0 0,.slice none 0 0,.slice none 0 0,.slice none 0 0,.slice none 0 0,.int .i64 0,.int .i64 0] 28 (0,0)) (by (with_reducible repeat (first|refine aZi ?_ _|refine aZj ?_|refine aZh ?_ _));exact BK134.out)):gb135≠gb134));clear BK133;clear BK134;clear HB;have BK133:=n0_;have BK134:=n1_;have HB:=n2_;have BK135:=n3_;have GW135:=n4_;have GE135:=n5_;have NB133_135:=n6_;have NB135_133:=n7_;have NB134_135:=n8_;have NB135_134:=n9_;clear n0_ n1_ n2_ n3_ n4_ n5_ n6_ n7_ n8_ n9_;clear hb hbox hg;have hnb10:=NB135_133.out;have hnc10:=NB133_135.out;have hnb11:=NB135_134.out;have hnc11:=NB134_135.out;have hcz12_0:w9.cell? ⟨gb135,0,none⟩=some (.slice none 0 0):=(aZd BK135.out 0).trans rfl;have hcz12_1:w9.cell? ⟨gb135,1,none⟩=some (.slice none 0 0):=(aZd BK135.out 1).trans rfl;have hcz12_2:w9.cell? ⟨gb135,2,none⟩=some (.slice none 0 0):=(aZd BK135.out 2).trans rfl;have hcz12_3:w9.cell? ⟨gb135,3,none⟩=some (.slice none 0 0):=(aZd BK135.out 3).trans rfl;have hcz12_4:w9.cell? ⟨gb135,4,none⟩=some (.slice none 0 0):=(aZd BK135.out 4).trans rfl;have hcz12_5:w9.cell? ⟨gb135,5,none⟩=some (.int .i64 0):=(aZd BK135.out 5).trans rfl;have hcz12_6:w9.cell? ⟨gb135,6,none⟩=some (.int .i64 0):=(aZd BK135.out 6).trans rfl;have hfz12_0:=aZe BK135.out 0;have hfz12_1:=aZe BK135.out 1;have hfz12_2:=aZe BK135.out 2;have hfz12_3:=aZe BK135.out 3;have hfz12_4:=aZe BK135.out 4;have hfz12_5:=aZe BK135.out 5;have hfz12_6:=aZe BK135.out 6;have hcz13_0:w9.cell? ⟨gb133,0,none⟩=some (.slice A0_0 l0_0.length c0_0):=(aZd BK133.out 0).trans rfl;have hcz13_1:w9.cell? ⟨gb133,1,none⟩=some (.slice A0_1 l0_1.length c0_1):=(aZd BK133.out 1).trans rfl;have hcz13_2:w9.cell? ⟨gb133,2,none⟩=some (.slice A0_2 l0_2.length c0_2):=(aZd BK133.out 2).trans rfl;have hcz13_3:w9.cell? ⟨gb133,3,none⟩=some (.slice A0_3 l0_3.length c0_3):=(aZd BK133.out 3).trans rfl;have hcz13_4:w9.cell? ⟨gb133,4,none⟩=some (.slice A0_4 l0_4.length c0_4):=(aZd BK133.out 4).trans rfl;have hcz13_5:w9.cell? ⟨gb133,5,none⟩=some (.int .i64 a0_5):=(aZd BK133.out 5).trans rfl;have hcz13_6:w9.cell? ⟨gb133,6,none⟩=some (.int .i64 a0_6):=(aZd BK133.out 6).trans rfl;have hfz13_0:=aZe BK133.out 0;have hfz13_1:=aZe BK133.out 1;have hfz13_2:=aZe BK133.out 2;have hfz13_3:=aZe BK133.out 3;have hfz13_4:=aZe BK133.out 4;have hfz13_5:=aZe BK133.out 5;have hfz13_6:=aZe BK133.out 6)|((with_reducible refine aZw (b:=.append) (xs:=#[.tmp 12,.tmp 14]) rfl ?_);at_builtin;refine Kd.R_append_rows Kd.string (w0:=w) w.heap.size rfl (.tmp 12) (.tmp 14) 22 9 (.string ⟨#[]⟩) 16 rfl Try.underlying22 info9 rfl (by decide) (by omega) (.slice none 0 0) ([]:List ByteArray) l0_0 _ _ _ (fun _=>True) (fun _=>False) rfl rfl ?aO ?aR (fun _ _ h=>h) (fun _ h=>h.elim) ?aF ?aB ?aS ?aL ?_;(case aR=>exact Kd.C_below HR0_0.out (by repeat (first|(with_reducible first|exact HB.out|apply aZb|apply aZa|apply aZc|refine aZf ?_ GE133.out|refine aZf ?_ GE134.out|refine aZf ?_ GE135.out)|exact HB.out)));(case aB=>exact (by repeat (first|(with_reducible first|exact HB.out|apply aZb|apply aZa|apply aZc|refine aZf ?_ GE133.out|refine aZf ?_ GE134.out|refine aZf ?_ GE135.out)|exact HB.out)));(case aF=>exact (fun _ _=>trivial));(case aO=>exact ((Kd.R_nil _ _ _ _ (fun _=>True))));(case aS=>exact (aZl (by repeat (first|(with_reducible first|exact HB.out|apply aZb|apply aZa|apply aZc|refine aZf ?_ GE133.out|refine aZf ?_ GE134.out|refine aZf ?_ GE135.out)|exact HB.out))));(case aL=>have:=LMc2.out;omega);intro v137 w14 ho hb hg hat;rw [←Ny136.out] at ho;have n0_:=Aside0.mk (aZI (g:=gb133) (o:=.cells #[.slice A0_0 l0_0.length c0_0,.slice A0_1 l0_1.length c0_1,.slice A0_2 l0_2.length c0_2,.slice A0_3 l0_3.length c0_3,.slice A0_4 l0_4.length c0_4,.int .i64 a0_5,.int .i64 a0_6] 28 (0,0)) (by (with_reducible repeat (first|refine aZi ?_ _|refine aZj ?_|refine aZh ?_ _));refine aZJ ?_ NB133_135.out _;(with_reducible repeat (first|refine aZi ?_ _|refine aZj ?_|refine aZh ?_ _));refine aZJ ?_ NB133_135.out _;(with_reducible repeat (first|refine aZi ?_ _|refine aZj ?_|refine aZh ?_ _));refine aZJ ?_ NB133_135.out _;(with_reducible repeat (first|refine aZi ?_ _|refine aZj ?_|refine aZh ?_ _));refine aZJ ?_ NB133_135.out _;(with_reducible repeat (first|refine aZi ?_ _|refine aZj ?_|refine aZh ?_ _));refine aZJ ?_ NB133_135.out _;(with_reducible repeat (first|refine aZi ?_ _|refine aZj ?_|refine aZh ?_ _));refine aZJ ?_ NB133_135.out _;(with_reducible repeat (first|refine aZi ?_ _|refine aZj ?_|refine aZh ?_ _));refine aZJ ?_ NB133_135.out _;(with_reducible repeat (first|refine aZi ?_ _|refine aZj ?_|refine aZh ?_ _));exact BK133.out) hg (by simp [Value.ownBlock]));have n1_:=Aside0.mk (aZI (g:=gb134) (o:=.cells #[.slice none 0 0,.slice none 0 0,.slice none 0 0,.slice none 0 0,.slice none 0 0,.int .i64 0,.int .i64 0] 28 (0,0)) (by (with_reducible repeat (first|refine aZi ?_ _|refine aZj ?_|refine aZh ?_ _));refine aZJ ?_ NB134_135.out _;(with_reducible repeat (first|refine aZi ?_ _|refine aZj ?_|refine aZh ?_ _));refine aZJ ?_ NB134_135.out _;(with_reducible repeat (first|refine aZi ?_ _|refine aZj ?_|refine aZh ?_ _));refine aZJ ?_ NB134_135.out _;(with_reducible repeat (first|refine aZi ?_ _|refine aZj ?_|refine aZh ?_ _));refine aZJ ?_ NB134_135.out _;(with_reducible repeat (first|refine aZi ?_ _|refine aZj ?_|refine aZh ?_ _));refine aZJ ?_ NB134_135.out _;(with_reducible repeat (first|refine aZi ?_ _|refine aZj ?_|refine aZh ?_ _));refine aZJ ?_ NB134_135.out _;(with_reducible repeat (first|refine aZi ?_ _|refine aZj ?_|refine aZh ?_ _));refine aZJ ?_ NB134_135.out _;(with_reducible repeat (first|refine aZi ?_ _|refine aZj ?_|refine aZh ?_ _));exact BK134.out) hg (by simp [Value.ownBlock]));have n2_:=Aside0.mk (aZI (g:=gb135) (o:=.cells #[.slice none 0 0,.slice none 0 0,.slice none 0 0,.slice none 0 0,.slice none 0 0,.int .i64 a0_5,.int .i64 a0_6] 28 (0,0)) (by (with_reducible repeat (first|refine aZi ?_ _|refine aZj ?_|refine aZh ?_ _));refine aZH (cs:=#[.slice none 0 0,.slice none 0 0,.slice none 0 0,.slice none 0 0,.slice none 0 0,.int .i64 a0_5,.int .i64 0]) ?_ 6 _ rfl;(with_reducible repeat (first|refine aZi ?_ _|refine aZj ?_|refine aZh ?_ _));refine aZH (cs:=#[.slice none 0 0,.slice none 0 0,.slice none 0 0,.slice none 0 0,.slice none 0 0,.int .i64 0,.int .i64 0]) ?_ 5 _ rfl;(with_reducible repeat (first|refine aZi ?_ _|refine aZj ?_|refine aZh ?_ _));refine aZH (cs:=#[.slice none 0 0,.slice none 0 0,.slice none 0 0,.slice none 0 0,.slice none 0 0,.int .i64 0,.int .i64 0]) ?_ 4 _ rfl;(with_reducible repeat (first|refine aZi ?_ _|refine aZj ?_|refine aZh ?_ _));refine aZH (cs:=#[.slice none 0 0,.slice none 0 0,.slice none 0 0,.slice none 0 0,.slice none 0 0,.int .i64 0,.int .i64 0]) ?_ 3 _ rfl;(with_reducible repeat (first|refine aZi ?_ _|refine aZj ?_|refine aZh ?_ _));refine aZH (cs:=#[.slice none 0 0,.slice none 0 0,.slice none 0 0,.slice none 0 0,.slice none 0 0,.int .i64 0,.int .i64 0]) ?_ 2 _ rfl;(with_reducible repeat (first|refine aZi ?_ _|refine aZj ?_|refine aZh ?_ _));refine aZH (cs:=#[.slice none 0 0,.slice none 0 0,.slice none 0 0,.slice none 0 0,.slice none 0 0,.int .i64 0,.int .i64 0]) ?_ 1 _ rfl;(with_reducible repeat (first|refine aZi ?_ _|refine aZj ?_|refine aZh ?_ _));refine aZH (cs:=#[.slice none 0 0,.slice none 0 0,.slice none 0 0,.slice none 0 0,.slice none 0 0,.int .i64 0,.int .i64 0]) ?_ 0 _ rfl;(with_reducible repeat (first|refine aZi ?_ _|refine aZj ?_|refine aZh ?_ _));exact BK135.out) hg (by simp [Value.ownBlock]));have n3_:=Aside0.mk (hb);have n4_:=Aside0.mk (ho);clear BK133;clear BK134;clear BK135;clear HB;have BK133:=n0_;have BK134:=n1_;have BK135:=n2_;have HB:=n3_;have HO138:=n4_;clear n0_ n1_ n2_ n3_ n4_;clear ho hb hg hat;obtain ⟨Ao15,co15,eo15⟩:=Kd.R_slice HO138.out;subst eo15;have hcz16_0:w14.cell? ⟨gb135,0,none⟩=some (.slice none 0 0):=(aZd BK135.out 0).trans rfl;have hcz16_1:w14.cell? ⟨gb135,1,none⟩=some (.slice none 0 0):=(aZd BK135.out 1).trans rfl;have hcz16_2:w14.cell? ⟨gb135,2,none⟩=some (.slice none 0 0):=(aZd BK135.out 2).trans rfl;have hcz16_3:w14.cell? ⟨gb135,3,none⟩=some (.slice none 0 0):=(aZd BK135.out 3).trans rfl;have hcz16_4:w14.cell? ⟨gb135,4,none⟩=some (.slice none 0 0):=(aZd BK135.out 4).trans rfl;have hcz16_5:w14.cell? ⟨gb135,5,none⟩=some (.int .i64 a0_5):=(aZd BK135.out 5).trans rfl;have hcz16_6:w14.cell? ⟨gb135,6,none⟩=some (.int .i64 a0_6):=(aZd BK135.out 6).trans rfl;have hfz16_0:=aZe BK135.out 0;have hfz16_1:=aZe BK135.out 1;have hfz16_2:=aZe BK135.out 2;have hfz16_3:=aZe BK135.out 3;have hfz16_4:=aZe BK135.out 4;have hfz16_5:=aZe BK135.out 5;have hfz16_6:=aZe BK135.out 6;have hcz17_0:w14.cell? ⟨gb133,0,none⟩=some (.slice A0_0 l0_0.length c0_0):=(aZd BK133.out 0).trans rfl;have hcz17_1:w14.cell? ⟨gb133,1,none⟩=some (.slice A0_1 l0_1.length c0_1):=(aZd BK133.out 1).trans rfl;have hcz17_2:w14.cell? ⟨gb133,2,none⟩=some (.slice A0_2 l0_2.length c0_2):=(aZd BK133.out 2).trans rfl;have hcz17_3:w14.cell? ⟨gb133,3,none⟩=some (.slice A0_3 l0_3.length c0_3):=(aZd BK133.out 3).trans rfl;have hcz17_4:w14.cell? ⟨gb133,4,none⟩=some (.slice A0_4 l0_4.length c0_4):=(aZd BK133.out 4).trans rfl;have hcz17_5:w14.cell? ⟨gb133,5,none⟩=some (.int .i64 a0_5):=(aZd BK133.out 5).trans rfl;have hcz17_6:w14.cell? ⟨gb133,6,none⟩=some (.int .i64 a0_6):=(aZd BK133.out 6).trans rfl;have hfz17_0:=aZe BK133.out 0;have hfz17_1:=aZe BK133.out 1;have hfz17_2:=aZe BK133.out 2;have hfz17_3:=aZe BK133.out 3;have hfz17_4:=aZe BK133.out 4;have hfz17_5:=aZe BK133.out 5;have hfz17_6:=aZe BK133.out 6)|((with_reducible refine aZw (b:=.append) (xs:=#[.tmp 18,.tmp 20]) rfl ?_);at_builtin;refine Kd.R_append_rows (Kd.int .i64) (w0:=w) w.heap.size rfl (.tmp 18) (.tmp 20) 23 3 (.int .i64 0) 8 rfl Try.underlying23 info3 rfl (by decide) (by omega) (.slice none 0 0) ([]:List Int) l0_1 _ _ _ (fun _=>True) (fun _=>False) rfl rfl ?aO ?aR (fun _ _ h=>h) (fun _ h=>h.elim) ?aF ?aB ?aS ?aL ?_;(case aR=>exact Kd.C_below HR0_1.out (by repeat (first|(with_reducible first|exact HB.out|apply aZb|apply aZa|apply aZc|refine aZf ?_ GE133.out|refine aZf ?_ GE134.out|refine aZf ?_ GE135.out)|exact HB.out)));(case aB=>exact (by repeat (first|(with_reducible first|exact HB.out|apply aZb|apply aZa|apply aZc|refine aZf ?_ GE133.out|refine aZf ?_ GE134.out|refine aZf ?_ GE135.out)|exact HB.out)));(case aF=>exact (fun _ _=>trivial));(case aO=>exact ((Kd.R_nil _ _ _ _ (fun _=>True))));(case aS=>exact (aZl (by repeat (first|(with_reducible first|exact HB.out|apply aZb|apply aZa|apply aZc|refine aZf ?_ GE133.out|refine aZf ?_ GE134.out|refine aZf ?_ GE135.out)|exact HB.out))));(case aL=>have:=LMc3.out;omega);intro v140 w18 ho hb hg hat;rw [←Ny139.out] at ho;have n0_:=Aside0.mk (aZI (g:=gb133) (o:=.cells #[.slice A0_0 l0_0.length c0_0,.slice A0_1 l0_1.length c0_1,.slice A0_2 l0_2.length c0_2,.slice A0_3 l0_3.length c0_3,.slice A0_4 l0_4.length c0_4,.int .i64 a0_5,.int .i64 a0_6] 28 (0,0)) (by (with_reducible repeat (first|refine aZi ?_ _|refine aZj ?_|refine aZh ?_ _));refine aZJ ?_ NB133_135.out _;(with_reducible repeat (first|refine aZi ?_ _|refine aZj ?_|refine aZh ?_ _));exact BK133.out) hg (by simp [Value.ownBlock]));have n1_:=Aside0.mk (aZI (g:=gb134) (o:=.cells #[.slice none 0 0,.slice none 0 0,.slice none 0 0,.slice none 0 0,.slice none 0 0,.int .i64 0,.int .i64 0] 28 (0,0)) (by (with_reducible repeat (first|refine aZi ?_ _|refine aZj ?_|refine aZh ?_ _));refine aZJ ?_ NB134_135.out _;(with_reducible repeat (first|refine aZi ?_ _|refine aZj ?_|refine aZh ?_ _));exact BK134.out) hg (by simp [Value.ownBlock]));have n2_:=Aside0.mk (aZI (g:=gb135) (o:=.cells #[.slice Ao15 y136.length co15,.slice none 0 0,.slice none 0 0,.slice none 0 0,.slice none 0 0,.int .i64 a0_5,.int .i64 a0_6] 28 (0,0)) (by (with_reducible repeat (first|refine aZi ?_ _|refine aZj ?_|refine aZh ?_ _));refine aZH (cs:=#[.slice none 0 0,.slice none 0 0,.slice none 0 0,.slice none 0 0,.slice none 0 0,.int .i64 a0_5,.int .i64 a0_6]) ?_ 0 _ rfl;(with_reducible repeat (first|refine aZi ?_ _|refine aZj ?_|refine aZh ?_ _));exact BK135.out) hg (by simp [Value.ownBlock]));have n3_:=Aside0.mk (Kd.R_grown (by (with_reducible repeat (first|apply Kd.R_alloc|apply Kd.R_drewN|apply Kd.R_drew));exact (Kd.R_mono (Kd.R_far (p:=⟨gb135,0,none⟩) (Kd.R_types HO138.out BK135.out (by decide)) (fun _ hk=>hk.2) (.slice Ao15 y136.length co15)) (fun _ h_=>h_.1))) hg (fun _ _=>by simp [Value.ownBlock]));have n4_:=Aside0.mk (hb);have n5_:=Aside0.mk (ho);clear BK133;clear BK134;clear BK135;clear HO138;clear HB;have BK133:=n0_;have BK134:=n1_;have BK135:=n2_;have HO138:=n3_;have HB:=n4_;have HO141:=n5_;clear n0_ n1_ n2_ n3_ n4_ n5_;clear ho hb hg hat;obtain ⟨Ao19,co19,eo19⟩:=Kd.R_slice HO141.out;subst eo19;have hcz20_0:w18.cell? ⟨gb135,0,none⟩=some (.slice Ao15 y136.length co15):=(aZd BK135.out 0).trans rfl;have hcz20_1:w18.cell? ⟨gb135,1,none⟩=some (.slice none 0 0):=(aZd BK135.out 1).trans rfl;have hcz20_2:w18.cell? ⟨gb135,2,none⟩=some (.slice none 0 0):=(aZd BK135.out 2).trans rfl;have hcz20_3:w18.cell? ⟨gb135,3,none⟩=some (.slice none 0 0):=(aZd BK135.out 3).trans rfl;have hcz20_4:w18.cell? ⟨gb135,4,none⟩=some (.slice none 0 0):=(aZd BK135.out 4).trans rfl;have hcz20_5:w18.cell? ⟨gb135,5,none⟩=some (.int .i64 a0_5):=(aZd BK135.out 5).trans rfl;have hcz20_6:w18.cell? ⟨gb135,6,none⟩=some (.int .i64 a0_6):=(aZd BK135.out 6).trans rfl;have hfz20_0:=aZe BK135.out 0;have hfz20_1:=aZe BK135.out 1;have hfz20_2:=aZe BK135.out 2;have hfz20_3:=aZe BK135.out 3;have hfz20_4:=aZe BK135.out 4;have hfz20_5:=aZe BK135.out 5;have hfz20_6:=aZe BK135.out 6;have hcz21_0:w18.cell? ⟨gb133,0,none⟩=some (.slice A0_0 l0_0.length c0_0):=(aZd BK133.out 0).trans rfl;have hcz21_1:w18.cell? ⟨gb133,1,none⟩=some (.slice A0_1 l0_1.length c0_1):=(aZd BK133.out 1).trans rfl;have hcz21_2:w18.cell? ⟨gb133,2,none⟩=some (.slice A0_2 l0_2.length c0_2):=(aZd BK133.out 2).trans rfl;have hcz21_3:w18.cell? ⟨gb133,3,none⟩=some (.slice A0_3 l0_3.length c0_3):=(aZd BK133.out 3).trans rfl;have hcz21_4:w18.cell? ⟨gb133,4,none⟩=some (.slice A0_4 l0_4.length c0_4):=(aZd BK133.out 4).trans rfl;have hcz21_5:w18.cell? ⟨gb133,5,none⟩=some (.int .i64 a0_5):=(aZd BK133.out 5).trans rfl;have hcz21_6:w18.cell? ⟨gb133,6,none⟩=some (.int .i64 a0_6):=(aZd BK133.out 6).trans rfl;have hfz21_0:=aZe BK133.out 0;have hfz21_1:=aZe BK133.out 1;have hfz21_2:=aZe BK133.out 2;have hfz21_3:=aZe BK133.out 3;have hfz21_4:=aZe BK133.out 4;have hfz21_5:=aZe BK133.out 5;have hfz21_6:=aZe BK133.out 6)|((with_reducible refine aZw (b:=.append) (xs:=#[.tmp 24,.tmp 26]) rfl ?_);at_builtin;refine Kd.R_append_rows k66 (w0:=w) w.heap.size rfl (.tmp 24) (.tmp 26) 26 66 (.agg #[(.int .i64 0),(.int .i64 0),(.int .i64 0),(.int .i64 0)]) 32 rfl Try.underlying26 info66 rfl (by decide) (by omega) (.slice none 0 0) ([]:List (S66)) l0_4 _ _ _ (fun _=>True) (fun _=>False) rfl rfl ?aO ?aR (fun _ _ h=>h) (fun _ h=>h.elim) ?aF ?aB ?aS ?aL ?_;(case aR=>exact Kd.C_below HR0_4.out (by repeat (first|(with_reducible first|exact HB.out|apply aZb|apply aZa|apply aZc|refine aZf ?_ GE133.out|refine aZf ?_ GE134.out|refine aZf ?_ GE135.out)|exact HB.out)));(case aB=>exact (by repeat (first|(with_reducible first|exact HB.out|apply aZb|apply aZa|apply aZc|refine aZf ?_ GE133.out|refine aZf ?_ GE134.out|refine aZf ?_ GE135.out)|exact HB.out)));(case aF=>exact (fun _ _=>trivial));(case aO=>exact ((Kd.R_nil _ _ _ _ (fun _=>True))));(case aS=>exact (aZl (by repeat (first|(with_reducible first|exact HB.out|apply aZb|apply aZa|apply aZc|refine aZf ?_ GE133.out|refine aZf ?_ GE134.out|refine aZf ?_ GE135.out)|exact HB.out))));(case aL=>have:=LMc4.out;omega);intro v143 w22 ho hb hg hat;rw [←Ny142.out] at ho;have n0_:=Aside0.mk (aZI (g:=gb133) (o:=.cells #[.slice A0_0 l0_0.length c0_0,.slice A0_1 l0_1.length c0_1,.slice A0_2 l0_2.length c0_2,.slice A0_3 l0_3.length c0_3,.slice A0_4 l0_4.length c0_4,.int .i64 a0_5,.int .i64 a0_6] 28 (0,0)) (by (with_reducible repeat (first|refine aZi ?_ _|refine aZj ?_|refine aZh ?_ _));refine aZJ ?_ NB133_135.out _;(with_reducible repeat (first|refine aZi ?_ _|refine aZj ?_|refine aZh ?_ _));exact BK133.out) hg (by simp [Value.ownBlock]));have n1_:=Aside0.mk (aZI (g:=gb134) (o:=.cells #[.slice none 0 0,.slice none 0 0,.slice none 0 0,.slice none 0 0,.slice none 0 0,.int .i64 0,.int .i64 0] 28 (0,0)) (by (with_reducible repeat (first|refine aZi ?_ _|refine aZj ?_|refine aZh ?_ _));refine aZJ ?_ NB134_135.out _;(with_reducible repeat (first|refine aZi ?_ _|refine aZj ?_|refine aZh ?_ _));exact BK134.out) hg (by simp [Value.ownBlock]));have n2_:=Aside0.mk (aZI (g:=gb135) (o:=.cells #[.slice Ao15 y136.length co15,.slice Ao19 y139.length co19,.slice none 0 0,.slice none 0 0,.slice none 0 0,.int .i64 a0_5,.int .i64 a0_6] 28 (0,0)) (by (with_reducible repeat (first|refine aZi ?_ _|refine aZj ?_|refine aZh ?_ _));refine aZH (cs:=#[.slice Ao15 y136.length co15,.slice none 0 0,.slice none 0 0,.slice none 0 0,.slice none 0 0,.int .i64 a0_5,.int .i64 a0_6]) ?_ 1 _ rfl;(with_reducible repeat (first|refine aZi ?_ _|refine aZj ?_|refine aZh ?_ _));exact BK135.out) hg (by simp [Value.ownBlock]));have n3_:=Aside0.mk (Kd.R_grown (by (with_reducible repeat (first|apply Kd.R_alloc|apply Kd.R_drewN|apply Kd.R_drew));exact (Kd.R_mono (Kd.R_far (p:=⟨gb135,1,none⟩) (Kd.R_types HO138.out BK135.out (by decide)) (fun _ hk=>hk.2) (.slice Ao19 y139.length co19)) (fun _ h_=>h_.1))) hg (fun _ _=>by simp [Value.ownBlock]));have n4_:=Aside0.mk (Kd.R_grown (by (with_reducible repeat (first|apply Kd.R_alloc|apply Kd.R_drewN|apply Kd.R_drew));exact (Kd.R_mono (Kd.R_far (p:=⟨gb135,1,none⟩) (Kd.R_types HO141.out BK135.out (by decide)) (fun _ hk=>hk.2) (.slice Ao19 y139.length co19)) (fun _ h_=>h_.1))) hg (fun _ _=>by simp [Value.ownBlock]));have n5_:=Aside0.mk (hb);have n6_:=Aside0.mk (ho);clear BK133;clear BK134;clear BK135;clear HO138;clear HO141;clear HB;have BK133:=n0_;have BK134:=n1_;have BK135:=n2_;have HO138:=n3_;have HO141:=n4_;have HB:=n5_;have HO144:=n6_;clear n0_ n1_ n2_ n3_ n4_ n5_ n6_;clear ho hb hg hat;obtain ⟨Ao23,co23,eo23⟩:=Kd.R_slice HO144.out;subst eo23;have hcz24_0:w22.cell? ⟨gb135,0,none⟩=some (.slice Ao15 y136.length co15):=(aZd BK135.out 0).trans rfl;have hcz24_1:w22.cell? ⟨gb135,1,none⟩=some (.slice Ao19 y139.length co19):=(aZd BK135.out 1).trans rfl;have hcz24_2:w22.cell? ⟨gb135,2,none⟩=some (.slice none 0 0):=(aZd BK135.out 2).trans rfl;have hcz24_3:w22.cell? ⟨gb135,3,none⟩=some (.slice none 0 0):=(aZd BK135.out 3).trans rfl;have hcz24_4:w22.cell? ⟨gb135,4,none⟩=some (.slice none 0 0):=(aZd BK135.out 4).trans rfl;have hcz24_5:w22.cell? ⟨gb135,5,none⟩=some (.int .i64 a0_5):=(aZd BK135.out 5).trans rfl;have hcz24_6:w22.cell? ⟨gb135,6,none⟩=some (.int .i64 a0_6):=(aZd BK135.out 6).trans rfl;have hfz24_0:=aZe BK135.out 0;have hfz24_1:=aZe BK135.out 1;have hfz24_2:=aZe BK135.out 2;have hfz24_3:=aZe BK135.out 3;have hfz24_4:=aZe BK135.out 4;have hfz24_5:=aZe BK135.out 5;have hfz24_6:=aZe BK135.out 6))
    go_loopg [4] k (fun kq v4 w'=>∃ (x4_1:Int) (x136002_1:List (List ByteArray)) (u136002:Value),v4=.int .i64 x4_1∧Aside0 (berthref20_Copy.l0 kq x4_1 l0_0 l0_1 l0_2 l0_3 l0_4 a0_5 a0_6 y136 y139 x136002_1 y142 a0_5 a0_6=some (r1,r2,r3,r4,r5,r6,r7))∧Aside0 (kq≤k)∧Aside0 (Kd.R Kd.string 9 w' w.heap.size (fun _=>True) (.slice Ao15 y136.length co15) y136)∧Aside0 (Kd.R (Kd.int .i64) 3 w' w.heap.size (fun _=>True) (.slice Ao19 y139.length co19) y139)∧Aside0 (Kd.S (Kd.slice 9 Kd.string) 22 w' w.heap.size (fun k_=>some k_≠((.slice Ao15 y136.length co15):Value).ownBlock) u136002 x136002_1)∧Aside0 (Kd.R k66 66 w' w.heap.size (fun _=>True) (.slice Ao23 y142.length co23) y142)∧Aside0 (w'.heap[gb133]?=some (.cells #[(.slice A0_0 l0_0.length c0_0),(.slice A0_1 l0_1.length c0_1),(.slice A0_2 l0_2.length c0_2),(.slice A0_3 l0_3.length c0_3),(.slice A0_4 l0_4.length c0_4),.int .i64 a0_5,.int .i64 a0_6] 28 (0,0)))∧Aside0 (w'.heap[gb134]?=some (.cells #[(.slice none 0 0),(.slice none 0 0),(.slice none 0 0),(.slice none 0 0),(.slice none 0 0),.int .i64 0,.int .i64 0] 28 (0,0)))∧Aside0 (w'.heap[gb135]?=some (.cells #[(.slice Ao15 y136.length co15),(.slice Ao19 y139.length co19),u136002,(.slice none 0 0),(.slice Ao23 y142.length co23),.int .i64 a0_5,.int .i64 a0_6] 28 (0,0)))∧Aside0 (Below w.heap.size w w'))
    case atStart=>exact ⟨(0),(([]:List (List ByteArray))),(.slice none 0 0),(by first|rfl|(simp;done)|(simp [*];done)|(simp only [aZk];done)|(simp [aZk,Int.tdiv_eq_ediv_of_nonneg];done)),H',⟨Nat.le_refl _⟩,⟨by (with_reducible repeat (first|apply Kd.R_alloc|apply Kd.R_drewN|apply Kd.R_drew));exact Kd.R_mono (Kd.R_far (p:=⟨gb135,4,none⟩) (Kd.R_types HO138.out BK135.out (by decide)) (fun _ hk=>hk.2) (.slice Ao23 y142.length co23)) (fun _ hk=>trivial)⟩,⟨by (with_reducible repeat (first|apply Kd.R_alloc|apply Kd.R_drewN|apply Kd.R_drew));exact Kd.R_mono (Kd.R_far (p:=⟨gb135,4,none⟩) (Kd.R_types HO141.out BK135.out (by decide)) (fun _ hk=>hk.2) (.slice Ao23 y142.length co23)) (fun _ hk=>trivial)⟩,⟨by first|exact Kd.S_nil _ _ _ _ _|exact Kd.N_nil _ _ _ _ _|exact Kd.V_nil _ _ _ _ _|exact Kd.Q_nil _ _ _ _ _|exact Kd.R_nil _ _ _ _ _⟩,⟨by (with_reducible repeat (first|apply Kd.R_alloc|apply Kd.R_drewN|apply Kd.R_drew));exact Kd.R_mono (Kd.R_far (p:=⟨gb135,4,none⟩) (Kd.R_types HO144.out BK135.out (by decide)) (fun _ hk=>hk.2) (.slice Ao23 y142.length co23)) (fun _ hk=>trivial)⟩,⟨by (with_reducible repeat (first|refine aZi ?_ _|refine aZj ?_|refine aZh ?_ _));refine aZJ ?_ NB133_135.out _;(with_reducible repeat (first|refine aZi ?_ _|refine aZj ?_|refine aZh ?_ _));exact BK133.out⟩,⟨by (with_reducible repeat (first|refine aZi ?_ _|refine aZj ?_|refine aZh ?_ _));refine aZJ ?_ NB134_135.out _;(with_reducible repeat (first|refine aZi ?_ _|refine aZj ?_|refine aZh ?_ _));exact BK134.out⟩,⟨by (with_reducible repeat (first|refine aZi ?_ _|refine aZj ?_|refine aZh ?_ _));refine aZH (cs:=#[.slice Ao15 y136.length co15,.slice Ao19 y139.length co19,.slice none 0 0,.slice none 0 0,.slice none 0 0,.int .i64 a0_5,.int .i64 a0_6]) ?_ 4 _ rfl;(with_reducible repeat (first|refine aZi ?_ _|refine aZj ?_|refine aZh ?_ _));exact BK135.out⟩,⟨by repeat (first|(with_reducible first|exact HB.out|apply aZb|apply aZa|apply aZc|refine aZf ?_ GE133.out|refine aZf ?_ GE134.out|refine aZf ?_ GE135.out)|exact HB.out)⟩⟩
    case round =>
     clear H'
     try clear c1
     try clear c2
     try clear p2
     try clear c3
     try clear c4
     try clear c7
     try clear c10
     try clear c11
     try clear c12
     try clear hcz12_0
     try clear hcz12_1
     try clear hcz12_2
     try clear hcz12_3
     try clear hcz12_4
     try clear hcz12_5
     try clear hcz12_6
     try clear hcz13_0
     try clear hcz13_1
     try clear hcz13_2
     try clear hcz13_3
     try clear hcz13_4
     try clear hcz13_5
     try clear hcz13_6
     try clear hcz16_0
     try clear hcz16_1
     try clear hcz16_2
     try clear hcz16_3
     try clear hcz16_4
     try clear hcz16_5
     try clear hcz16_6
     try clear hcz17_0
     try clear hcz17_1
     try clear hcz17_2
     try clear hcz17_3
     try clear hcz17_4
     try clear hcz17_5
     try clear hcz17_6
     try clear hcz20_0
     try clear hcz20_1
     try clear hcz20_2
     try clear hcz20_3
     try clear hcz20_4
     try clear hcz20_5
     try clear hcz20_6
     try clear hcz21_0
     try clear hcz21_1
     try clear hcz21_2
     try clear hcz21_3
     try clear hcz21_4
     try clear hcz21_5
     try clear hcz21_6
     try clear hcz24_0
     try clear hcz24_1
     try clear hcz24_2
     try clear hcz24_3
     try clear hcz24_4
     try clear hcz24_5
     try clear hcz24_6
     try clear hcz8_0
     try clear hcz8_1
     try clear hcz8_2
     try clear hcz8_3
     try clear hcz8_4
     try clear hcz8_5
     try clear hcz8_6
     try clear hfz12_0
     try clear hfz12_1
     try clear hfz12_2
     try clear hfz12_3
     try clear hfz12_4
     try clear hfz12_5
     try clear hfz12_6
     try clear hfz13_0
     try clear hfz13_1
     try clear hfz13_2
     try clear hfz13_3
     try clear hfz13_4
     try clear hfz13_5
     try clear hfz13_6
     try clear hfz16_0
     try clear hfz16_1
     try clear hfz16_2
     try clear hfz16_3
     try clear hfz16_4
     try clear hfz16_5
     try clear hfz16_6
     try clear hfz17_0
     try clear hfz17_1
     try clear hfz17_2
     try clear hfz17_3
     try clear hfz17_4
     try clear hfz17_5
     try clear hfz17_6
     try clear hfz20_0
     try clear hfz20_1
     try clear hfz20_2
     try clear hfz20_3
     try clear hfz20_4
     try clear hfz20_5
     try clear hfz20_6
     try clear hfz21_0
     try clear hfz21_1
     try clear hfz21_2
     try clear hfz21_3
     try clear hfz21_4
     try clear hfz21_5
     try clear hfz21_6
     try clear hfz24_0
     try clear hfz24_1
     try clear hfz24_2
     try clear hfz24_3
     try clear hfz24_4
     try clear hfz24_5
     try clear hfz24_6
     try clear hfz8_0
     try clear hfz8_1
     try clear hfz8_2
     try clear hfz8_3
     try clear hfz8_4
     try clear hfz8_5
     try clear hfz8_6
     obtain ⟨x4_1,x136002_1,u136002,rfl,HA,HK1,HO_136000,HO_136001,HO_136002,HO_136004,BK133,BK134,BK135,HB⟩:=hrel
     cases gk with
     | zero=>exact absurd HA.out (by simp [berthref20_Copy.l0])
     | succ k1 =>
      have H:=HA.out
      clear HA
      simp only [berthref20_Copy.l0] at H
      by_cases c25:x4_1<(l0_2.length:Int)
      ·
       rw [if_pos c25] at H
       have c25b0:decide (x4_1<(l0_2.length:Int))=true:=decide_eq_true c25
       clear c25
       obtain ⟨y145,hy145⟩:∃ y_:List ByteArray,y_=(([]:List ByteArray)):=⟨_,rfl⟩
       replace H:(if 0≤x4_1 then (if y145.length+(cZR l0_2 x4_1).length<8796093022208 then (if x136002_1.length<5864062014805 then (berthref20_Copy.l0 k1 (wrap64 (x4_1+1)) l0_0 l0_1 l0_2 l0_3 l0_4 a0_5 a0_6 y136 y139 (x136002_1++[(y145++(cZR l0_2 x4_1))]) y142 a0_5 a0_6) else (none)) else (none)) else (none))=some (r1,r2,r3,r4,r5,r6,r7):=by first|(rw [hy145];with_reducible exact H)|(have H2_:=(Option.bind_some _ _).symm.trans H;rw [hy145];with_reducible exact H2_)|(have H2_:=(Option.bind_some _ _).symm.trans H;with_reducible exact H2_)|with_reducible exact H|(rw [hy145];exact H)|exact H
       have Ny145:=Aside0.mk hy145
       clear hy145
       by_cases c26:0≤x4_1
       ·
        rw [if_pos c26] at H
        have c26b0:decide (0≤x4_1)=true:=decide_eq_true c26
        clear c26
        by_cases c27:y145.length+(cZR l0_2 x4_1).length<8796093022208
        ·
         rw [if_pos c27] at H
         have LMc27:=Aside0.mk c27
         clear c27
         obtain ⟨y149,hy149⟩:∃ y_:List ByteArray,y_=(y145++(cZR l0_2 x4_1)):=⟨_,rfl⟩
         replace H:(if x136002_1.length<5864062014805 then (berthref20_Copy.l0 k1 (wrap64 (x4_1+1)) l0_0 l0_1 l0_2 l0_3 l0_4 a0_5 a0_6 y136 y139 (x136002_1++[y149]) y142 a0_5 a0_6) else (none))=some (r1,r2,r3,r4,r5,r6,r7):=by first|(rw [hy149];with_reducible exact H)|(have H2_:=(Option.bind_some _ _).symm.trans H;rw [hy149];with_reducible exact H2_)|(have H2_:=(Option.bind_some _ _).symm.trans H;with_reducible exact H2_)|with_reducible exact H|(rw [hy149];exact H)|exact H
         have Ny149:=Aside0.mk hy149
         clear hy149
         by_cases c28:x136002_1.length<5864062014805
         ·
          rw [if_pos c28] at H
          have LMc28:=Aside0.mk c28
          clear c28
          obtain ⟨y152,hy152⟩:∃ y_:List (List ByteArray),y_=(x136002_1++[y149]):=⟨_,rfl⟩
          replace H:(berthref20_Copy.l0 k1 (wrap64 (x4_1+1)) l0_0 l0_1 l0_2 l0_3 l0_4 a0_5 a0_6 y136 y139 y152 y142 a0_5 a0_6)=some (r1,r2,r3,r4,r5,r6,r7):=by first|(rw [hy152];with_reducible exact H)|(have H2_:=(Option.bind_some _ _).symm.trans H;rw [hy152];with_reducible exact H2_)|(have H2_:=(Option.bind_some _ _).symm.trans H;with_reducible exact H2_)|with_reducible exact H|(rw [hy152];exact H)|exact H
          have Ny152:=Aside0.mk hy152
          clear hy152
          have H':=Aside0.mk H
          clear H
          have hnb29:=NB133_134.out
          have hnc29:=NB134_133.out
          have hnb30:=NB133_135.out
          have hnc30:=NB135_133.out
          have hcz31_0:wr.cell? ⟨gb133,0,none⟩=some (.slice A0_0 l0_0.length c0_0):=(aZd BK133.out 0).trans rfl
          have hcz31_1:wr.cell? ⟨gb133,1,none⟩=some (.slice A0_1 l0_1.length c0_1):=(aZd BK133.out 1).trans rfl
          have hcz31_2:wr.cell? ⟨gb133,2,none⟩=some (.slice A0_2 l0_2.length c0_2):=(aZd BK133.out 2).trans rfl
          have hcz31_3:wr.cell? ⟨gb133,3,none⟩=some (.slice A0_3 l0_3.length c0_3):=(aZd BK133.out 3).trans rfl
          have hcz31_4:wr.cell? ⟨gb133,4,none⟩=some (.slice A0_4 l0_4.length c0_4):=(aZd BK133.out 4).trans rfl
          have hcz31_5:wr.cell? ⟨gb133,5,none⟩=some (.int .i64 a0_5):=(aZd BK133.out 5).trans rfl
          have hcz31_6:wr.cell? ⟨gb133,6,none⟩=some (.int .i64 a0_6):=(aZd BK133.out 6).trans rfl
          have hfz31_0:=aZe BK133.out 0
          have hfz31_1:=aZe BK133.out 1
          have hfz31_2:=aZe BK133.out 2
          have hfz31_3:=aZe BK133.out 3
          have hfz31_4:=aZe BK133.out 4
          have hfz31_5:=aZe BK133.out 5
          have hfz31_6:=aZe BK133.out 6
          try go_wp2
          have n0_:=Aside0.mk (Kd.R_drew HO_136000.out)
          have n1_:=Aside0.mk (Kd.R_drew HO_136001.out)
          have n2_:=Aside0.mk (Kd.S_drew HO_136002.out)
          have n3_:=Aside0.mk (Kd.R_drew HO_136004.out)
          have n4_:=Aside0.mk (aZj BK133.out)
          have n5_:=Aside0.mk (aZj BK134.out)
          have n6_:=Aside0.mk (aZj BK135.out)
          have n7_:=Aside0.mk (aZc HB.out)
          clear HO_136000
          clear HO_136001
          clear HO_136002
          clear HO_136004
          clear BK133
          clear BK134
          clear BK135
          clear HB
          have HO_136000:=n0_
          have HO_136001:=n1_
          have HO_136002:=n2_
          have HO_136004:=n3_
          have BK133:=n4_
          have BK134:=n5_
          have BK135:=n6_
          have HB:=n7_
          clear n0_ n1_ n2_ n3_ n4_ n5_ n6_ n7_
          have p148:0≤(x4_1:Int):=of_decide_eq_true (by first|(with_reducible assumption)|assumption)
          have q148:x4_1<(l0_2.length:Int):=of_decide_eq_true (by first|(with_reducible assumption)|assumption)
          obtain ⟨ad148,A148_0,c148_0,e148,hx148_0,hl148_0,hi148_0⟩:=at_L3 HR0_2.out x4_1 p148 q148
          have hw148_0:=hx148_0
          cases e148
          replace hx148_0:=(HB.out.cell (World.block_lt_of_cell? w _ hx148_0)).trans hx148_0
          have HR148_0:=Aside0.mk hi148_0
          have HC148_0:=Aside0.mk hl148_0
          clear hi148_0 hl148_0
          replace p148:=eq_true p148
          replace q148:=eq_true q148
          refine dZP (n:=13) (S:=fun w'=>w'.cell? ⟨gb135,0,none⟩=some (.slice Ao15 y136.length co15)∧w'.cell? ⟨gb135,1,none⟩=some (.slice Ao19 y139.length co19)∧w'.cell? ⟨gb135,2,none⟩=some (u136002)∧w'.cell? ⟨gb135,3,none⟩=some (.slice none 0 0)∧w'.cell? ⟨gb135,4,none⟩=some (.slice Ao23 y142.length co23)∧w'.cell? ⟨gb135,5,none⟩=some (.int .i64 a0_5)∧w'.cell? ⟨gb135,6,none⟩=some (.int .i64 a0_6)∧w'.cell? ⟨gb133,0,none⟩=some (.slice A0_0 l0_0.length c0_0)∧w'.cell? ⟨gb133,1,none⟩=some (.slice A0_1 l0_1.length c0_1)∧w'.cell? ⟨gb133,2,none⟩=some (.slice (some ad148) l0_2.length c0_2)∧w'.cell? ⟨gb133,3,none⟩=some (.slice A0_3 l0_3.length c0_3)∧w'.cell? ⟨gb133,4,none⟩=some (.slice A0_4 l0_4.length c0_4)∧w'.cell? ⟨gb133,5,none⟩=some (.int .i64 a0_5)∧w'.cell? ⟨gb133,6,none⟩=some (.int .i64 a0_6)∧w'.cell? (ad148.add (x4_1).toNat)=some (.slice A148_0 (cZR l0_2 x4_1).length c148_0)) (ds:=[12]) #[false,false,false,false,false,false,false,false,false,false,false,false,false] (by kernel_rfl) rfl rfl ⟨(aZd BK135.out 0).trans rfl,(aZd BK135.out 1).trans rfl,(aZd BK135.out 2).trans rfl,(aZd BK135.out 3).trans rfl,(aZd BK135.out 4).trans rfl,(aZd BK135.out 5).trans rfl,(aZd BK135.out 6).trans rfl,(aZd BK133.out 0).trans rfl,(aZd BK133.out 1).trans rfl,(aZd BK133.out 2).trans rfl,(aZd BK133.out 3).trans rfl,(aZd BK133.out 4).trans rfl,(aZd BK133.out 5).trans rfl,(aZd BK133.out 6).trans rfl,((HB.out.cell (World.block_lt_of_cell? w _ hw148_0)).trans hw148_0)⟩ (fun hHeld=>?_);refine bZY berthref20_Copy.tab8 berthref20_Copy.bits8 (fun HT_ HW_=>?_)
          generalize wr.drew=w32 at HO_136000 HO_136001 HO_136002 HO_136004 BK133 BK134 BK135 HB HR148_0 hx148_0 hHeld ⊢
          refine aZZ (i:=0) (N:=some 36) (v:=?_) (a':=?_) #[true,false,false,false,false,false,false,false,false,false,false,false,false] rfl rfl (aZF HT_.out (by kernel_rfl)) (fun _ _ _ h=>h) (Or.inl ⟨by rfl,?_⟩) ?_ ?_
          rotate_left
          ·
           intro w'
           go_simp
           with_reducible rfl
          rotate_left
          ·
           simp only [Act.put,List.setIfInBounds_toArray,List.set_cons_zero,List.set_cons_succ,aZk,aZP]
           rfl
          refine aZZ (i:=3) (N:=some 39) (v:=?_) (a':=?_) #[true,false,false,true,false,false,false,false,false,false,false,false,false] rfl rfl (aZF HT_.out (by kernel_rfl)) (fun _ _ _ h=>h) (Or.inl ⟨by rfl,?_⟩) ?_ ?_
          rotate_left
          ·
           intro w'
           go_simp
           with_reducible rfl
          rotate_left
          ·
           simp only [Act.put,List.setIfInBounds_toArray,List.set_cons_zero,List.set_cons_succ,aZk,aZP]
           rfl
          refine aZZ (i:=5) (N:=some 41) (v:=?_) (a':=?_) #[true,false,false,true,false,true,false,false,false,false,false,false,false] rfl rfl (aZF HT_.out (by kernel_rfl)) (fun _ _ _ h=>h) (Or.inl ⟨by rfl,?_⟩) ?_ ?_
          rotate_left
          ·
           intro w'
           go_simp
           with_reducible rfl
          rotate_left
          ·
           simp only [Act.put,List.setIfInBounds_toArray,List.set_cons_zero,List.set_cons_succ,aZk,aZP]
           rfl
          refine take_ (i:=1) (N:=some 37) (v:=?_) (a':=?_) #[true,true,false,true,false,true,false,false,false,false,false,false,false] rfl rfl (aZV HT_.out HW_.out (by kernel_rfl)) (fun _ _ _ h=>h) (Or.inl ⟨by rfl,?_⟩) hHeld ?_ ?_
          rotate_left
          ·
           rintro w' ⟨s0,s1,s2,s3,s4,s5,s6,s7,s8,s9,s10,s11,s12,s13,s14⟩
           go_simp
           with_reducible rfl
          rotate_left
          ·
           simp only [Act.put,List.setIfInBounds_toArray,List.set_cons_zero,List.set_cons_succ,aZk,aZP]
           rfl
          refine take_ (i:=4) (N:=some 40) (v:=?_) (a':=?_) #[true,true,false,true,true,true,false,false,false,false,false,false,false] rfl rfl (aZV HT_.out HW_.out (by kernel_rfl)) (fun _ _ _ h=>h) (Or.inl ⟨by rfl,?_⟩) hHeld ?_ ?_
          rotate_left
          ·
           rintro w' ⟨s0,s1,s2,s3,s4,s5,s6,s7,s8,s9,s10,s11,s12,s13,s14⟩
           go_simp
           with_reducible rfl
          rotate_left
          ·
           simp only [Act.put,List.setIfInBounds_toArray,List.set_cons_zero,List.set_cons_succ,aZk,aZP]
           rfl
          refine aZZ (i:=6) (N:=some 42) (v:=?_) (a':=?_) #[true,true,false,true,true,true,true,false,false,false,false,false,false] rfl rfl (aZF HT_.out (by kernel_rfl)) (fun _ _ _ h=>h) (Or.inl ⟨by rfl,?_⟩) ?_ ?_
          rotate_left
          ·
           intro w'
           go_simp
           with_reducible rfl
          rotate_left
          ·
           simp only [Act.put,List.setIfInBounds_toArray,List.set_cons_zero,List.set_cons_succ,aZk,aZP]
           rfl
          refine take_ (i:=7) (N:=some 43) (v:=?_) (a':=?_) #[true,true,false,true,true,true,true,true,false,false,false,false,false] rfl rfl (aZV HT_.out HW_.out (by kernel_rfl)) (fun _ _ _ h=>h) (Or.inl ⟨by rfl,?_⟩) hHeld ?_ ?_
          rotate_left
          ·
           rintro w' ⟨s0,s1,s2,s3,s4,s5,s6,s7,s8,s9,s10,s11,s12,s13,s14⟩
           go_simp
           with_reducible rfl
          rotate_left
          ·
           simp only [Act.put,List.setIfInBounds_toArray,List.set_cons_zero,List.set_cons_succ,aZk,aZP]
           rfl
          refine one_ (i:=2) (N:=some 38) #[true,true,true,true,true,true,true,true,false,false,false,false,false] rfl rfl (bZt HT_.out (by kernel_rfl)) (by decide) (fun K hK=>?_)
          refine Kd.R_lit_step Kd.string _ 9 ?hg (N:=38) ?hd (xs:=([]:List ByteArray)) (inner:=[]) (ok:=fun _=>True) (okp:=fun _=>True) ?hr ?hp (fun _ hk=>hk) trivial (Below.refl _ _) (Nat.le_refl _) (by simp) ?_;(case hd=>rfl);(case hg=>rfl);(case hr=>first|(go_simp;done)|(go_simp;rfl));(case hp=>exact (Reps.none _ _))
          intro v146 w33 ho34 hb hg_ hnew_
          clear hg_ hnew_
          (first|rw [←Ny145.out] at ho34|(simp only [Int.reduceToNat] at ho34;rw [←Ny145.out] at ho34))
          have n0_:=Aside0.mk (Kd.R_elder' (by (with_reducible repeat (first|apply Kd.R_alloc|apply Kd.R_drewN|apply Kd.R_drew));exact HO_136000.out) (Kd.R_base ho34) hb)
          have n1_:=Aside0.mk (Kd.R_below (by (with_reducible repeat (first|apply Kd.R_alloc|apply Kd.R_drewN|apply Kd.R_drew));exact HO_136001.out) hb)
          have n2_:=Aside0.mk (Kd.S_elder' (by (with_reducible repeat (first|apply Kd.S_alloc|apply Kd.S_drewN|apply Kd.S_drew));exact HO_136002.out) (Kd.R_base ho34) hb)
          have n3_:=Aside0.mk (Kd.R_below (by (with_reducible repeat (first|apply Kd.R_alloc|apply Kd.R_drewN|apply Kd.R_drew));exact HO_136004.out) hb)
          have n4_:=Aside0.mk (Kd.R_lower (Kd.R_new' ho34 (Kd.R_lt (by (with_reducible repeat (first|apply Kd.R_alloc|apply Kd.R_drewN|apply Kd.R_drew));exact HO_136000.out))) (aZl (by repeat (first|(with_reducible first|exact HB.out|apply aZb|apply aZa|apply aZc|refine aZf ?_ GE133.out|refine aZf ?_ GE134.out|refine aZf ?_ GE135.out)|exact HB.out))))
          have n5_:=Aside0.mk (aZN (g:=gb133) (o:=.cells #[.slice A0_0 l0_0.length c0_0,.slice A0_1 l0_1.length c0_1,.slice (some ad148) l0_2.length c0_2,.slice A0_3 l0_3.length c0_3,.slice A0_4 l0_4.length c0_4,.int .i64 a0_5,.int .i64 a0_6] 28 (0,0)) (by (with_reducible repeat (first|refine aZi ?_ _|refine aZj ?_|refine aZh ?_ _));exact BK133.out) hb)
          have n6_:=Aside0.mk (aZN (g:=gb134) (o:=.cells #[.slice none 0 0,.slice none 0 0,.slice none 0 0,.slice none 0 0,.slice none 0 0,.int .i64 0,.int .i64 0] 28 (0,0)) (by (with_reducible repeat (first|refine aZi ?_ _|refine aZj ?_|refine aZh ?_ _));exact BK134.out) hb)
          have n7_:=Aside0.mk (aZN (g:=gb135) (o:=.cells #[.slice Ao15 y136.length co15,.slice Ao19 y139.length co19,u136002,.slice none 0 0,.slice Ao23 y142.length co23,.int .i64 a0_5,.int .i64 a0_6] 28 (0,0)) (by (with_reducible repeat (first|refine aZi ?_ _|refine aZj ?_|refine aZh ?_ _));exact BK135.out) hb)
          have n8_:=Aside0.mk (aZo (by repeat (first|(with_reducible first|exact HB.out|apply aZb|apply aZa|apply aZc|refine aZf ?_ GE133.out|refine aZf ?_ GE134.out|refine aZf ?_ GE135.out)|exact HB.out)) hb)
          clear HO_136000
          clear HO_136001
          clear HO_136002
          clear HO_136004
          clear BK133
          clear BK134
          clear BK135
          clear HB
          have HO_136000:=n0_
          have HO_136001:=n1_
          have HO_136002:=n2_
          have HO_136004:=n3_
          have HO147:=n4_
          have BK133:=n5_
          have BK134:=n6_
          have BK135:=n7_
          have HB:=n8_
          clear n0_ n1_ n2_ n3_ n4_ n5_ n6_ n7_ n8_
          clear hb ho34
          refine hK.out _ _ ⟨(aZd BK135.out 0).trans rfl,(aZd BK135.out 1).trans rfl,(aZd BK135.out 2).trans rfl,(aZd BK135.out 3).trans rfl,(aZd BK135.out 4).trans rfl,(aZd BK135.out 5).trans rfl,(aZd BK135.out 6).trans rfl,(aZd BK133.out 0).trans rfl,(aZd BK133.out 1).trans rfl,(aZd BK133.out 2).trans rfl,(aZd BK133.out 3).trans rfl,(aZd BK133.out 4).trans rfl,(aZd BK133.out 5).trans rfl,(aZd BK133.out 6).trans rfl,((HB.out.cell (World.block_lt_of_cell? w _ hw148_0)).trans hw148_0)⟩ (fun hHeld=>?_)
          clear hK K
          refine eZg (a':=?_) ?_ ?_
          rotate_left
          ·
           show Act.put _ (some 38) _=_
           simp only [Act.put,List.setIfInBounds_toArray,List.set_cons_zero,List.set_cons_succ,aZk,aZP]
           rfl
          refine one_ (i:=8) (N:=some 44) #[true,true,true,true,true,true,true,true,true,false,false,false,false] rfl rfl (bZt HT_.out (by kernel_rfl)) (by decide) (fun K hK=>?_)
          refine Kd.R_append_rows_step Kd.string (w0:=w) w.heap.size (by rfl) (.tmp 38) (.tmp 43) 22 9 (.string ⟨#[]⟩) 16 rfl Try.underlying22 info9 rfl (by decide) (by omega) v146 y145 (cZR l0_2 x4_1) _ _ _ (fun k_=>some k_≠(.slice Ao15 y136.length co15:Value).ownBlock) (fun _=>False) rfl rfl ?aO ?aR (fun _ _ h=>h) (fun _ h=>h.elim) ?aF ?aB ?aS ?aL ?_
          (case aR=>repeat (first|exact (Kd.C_below HR148_0.out HB.out)|(with_reducible refine Kd.C_alloc ?_ _)|(with_reducible refine Kd.C_drewN ?_ _)|(with_reducible refine Kd.C_drew ?_)))
          (case aB=>exact (by repeat (first|(with_reducible first|exact HB.out|apply aZb|apply aZa|apply aZc|refine aZf ?_ GE133.out|refine aZf ?_ GE134.out|refine aZf ?_ GE135.out)|exact HB.out)))
          (case aF=>exact (fun k_ hk=>Kd.fresh' (Kd.R_lt (by (with_reducible repeat (first|apply Kd.R_alloc|apply Kd.R_drewN|apply Kd.R_drew));exact HO_136000.out)) k_ hk))
          (case aO=>exact (by (with_reducible repeat (first|apply Kd.R_alloc|apply Kd.R_drewN|apply Kd.R_drew));exact Kd.R_mono HO147.out (fun _ hk=>hk.2)))
          (case aS=>exact (aZl (by repeat (first|(with_reducible first|exact HB.out|apply aZb|apply aZa|apply aZc|refine aZf ?_ GE133.out|refine aZf ?_ GE134.out|refine aZf ?_ GE135.out)|exact HB.out))))
          (case aL=>have:=LMc27.out;omega)
          intro v150 w35 ho hb hg hat
          rw [←Ny149.out] at ho
          have n0_:=Aside0.mk (Kd.R_after (ok:=(fun _=>True)) (by (with_reducible repeat (first|apply Kd.R_alloc|apply Kd.R_drewN|apply Kd.R_drew));exact HO_136000.out) hg hat)
          have n1_:=Aside0.mk (Kd.R_over' (by (with_reducible repeat (first|apply Kd.R_alloc|apply Kd.R_drewN|apply Kd.R_drew));exact HO_136001.out) (Kd.R_typed (by (with_reducible repeat (first|apply Kd.R_alloc|apply Kd.R_drewN|apply Kd.R_drew));exact HO147.out)) (by decide) hg)
          have n2_:=Aside0.mk (Kd.S_after (ok:=(fun k_=>some k_≠(.slice Ao15 y136.length co15:Value).ownBlock)) (by (with_reducible repeat (first|apply Kd.S_alloc|apply Kd.S_drewN|apply Kd.S_drew));exact HO_136002.out) hg hat)
          have n3_:=Aside0.mk (Kd.R_over' (by (with_reducible repeat (first|apply Kd.R_alloc|apply Kd.R_drewN|apply Kd.R_drew));exact HO_136004.out) (Kd.R_typed (by (with_reducible repeat (first|apply Kd.R_alloc|apply Kd.R_drewN|apply Kd.R_drew));exact HO147.out)) (by decide) hg)
          have n4_:=Aside0.mk (aZI (g:=gb133) (o:=.cells #[.slice A0_0 l0_0.length c0_0,.slice A0_1 l0_1.length c0_1,.slice (some ad148) l0_2.length c0_2,.slice A0_3 l0_3.length c0_3,.slice A0_4 l0_4.length c0_4,.int .i64 a0_5,.int .i64 a0_6] 28 (0,0)) (by (with_reducible repeat (first|refine aZi ?_ _|refine aZj ?_|refine aZh ?_ _));exact BK133.out) hg (Kd.R_ne HO147.out BK133.out (by decide)))
          have n5_:=Aside0.mk (aZI (g:=gb134) (o:=.cells #[.slice none 0 0,.slice none 0 0,.slice none 0 0,.slice none 0 0,.slice none 0 0,.int .i64 0,.int .i64 0] 28 (0,0)) (by (with_reducible repeat (first|refine aZi ?_ _|refine aZj ?_|refine aZh ?_ _));exact BK134.out) hg (Kd.R_ne HO147.out BK134.out (by decide)))
          have n6_:=Aside0.mk (aZI (g:=gb135) (o:=.cells #[.slice Ao15 y136.length co15,.slice Ao19 y139.length co19,u136002,.slice none 0 0,.slice Ao23 y142.length co23,.int .i64 a0_5,.int .i64 a0_6] 28 (0,0)) (by (with_reducible repeat (first|refine aZi ?_ _|refine aZj ?_|refine aZh ?_ _));exact BK135.out) hg (Kd.R_ne HO147.out BK135.out (by decide)))
          have n7_:=Aside0.mk (hb)
          have n8_:=Aside0.mk (ho)
          clear HO_136000
          clear HO_136001
          clear HO_136002
          clear HO_136004
          clear BK133
          clear BK134
          clear BK135
          clear HB
          clear HO147
          have HO_136000:=n0_
          have HO_136001:=n1_
          have HO_136002:=n2_
          have HO_136004:=n3_
          have BK133:=n4_
          have BK134:=n5_
          have BK135:=n6_
          have HB:=n7_
          have HO151:=n8_
          clear n0_ n1_ n2_ n3_ n4_ n5_ n6_ n7_ n8_
          clear ho hb hg hat
          obtain ⟨Ao37,co37,eo37⟩:=Kd.R_slice HO151.out
          (first|subst eo37|(injection eo37 with f1_ f2_ f3_;have f4_:=f1_.symm;have f5_:=f3_.symm;clear f1_ f2_ f3_;subst f4_;subst f5_))
          refine hK.out _ _ ⟨(aZd BK135.out 0).trans rfl,(aZd BK135.out 1).trans rfl,(aZd BK135.out 2).trans rfl,(aZd BK135.out 3).trans rfl,(aZd BK135.out 4).trans rfl,(aZd BK135.out 5).trans rfl,(aZd BK135.out 6).trans rfl,(aZd BK133.out 0).trans rfl,(aZd BK133.out 1).trans rfl,(aZd BK133.out 2).trans rfl,(aZd BK133.out 3).trans rfl,(aZd BK133.out 4).trans rfl,(aZd BK133.out 5).trans rfl,(aZd BK133.out 6).trans rfl,((HB.out.cell (World.block_lt_of_cell? w _ hw148_0)).trans hw148_0)⟩ (fun hHeld=>?_)
          clear hK K
          refine eZg (a':=?_) ?_ ?_
          rotate_left
          ·
           show Act.put _ (some 44) _=_
           simp only [Act.put,List.setIfInBounds_toArray,List.set_cons_zero,List.set_cons_succ,aZk,aZP]
           rfl
          refine one_ (i:=9) (N:=some 45) #[true,true,true,true,true,true,true,true,true,true,false,false,false] rfl rfl (bZt HT_.out (by kernel_rfl)) (by decide) (fun K hK=>?_)
          refine value_ (w1:=?_) (v:=?_) (by rfl) rfl ?_ ?_
          rotate_left 2
          ·
           go_simp
           constructor
           · rfl
           · rfl
          refine hK.out _ _ ⟨(aZd (aZh BK135.out _) 0).trans rfl,(aZd (aZh BK135.out _) 1).trans rfl,(aZd (aZh BK135.out _) 2).trans rfl,(aZd (aZh BK135.out _) 3).trans rfl,(aZd (aZh BK135.out _) 4).trans rfl,(aZd (aZh BK135.out _) 5).trans rfl,(aZd (aZh BK135.out _) 6).trans rfl,(aZd (aZh BK133.out _) 0).trans rfl,(aZd (aZh BK133.out _) 1).trans rfl,(aZd (aZh BK133.out _) 2).trans rfl,(aZd (aZh BK133.out _) 3).trans rfl,(aZd (aZh BK133.out _) 4).trans rfl,(aZd (aZh BK133.out _) 5).trans rfl,(aZd (aZh BK133.out _) 6).trans rfl,(World.cell?_alloc_lt _ _ _ (World.block_lt_of_cell? _ _ (((HB.out.cell (World.block_lt_of_cell? w _ hw148_0)).trans hw148_0)))).trans (((HB.out.cell (World.block_lt_of_cell? w _ hw148_0)).trans hw148_0))⟩ (fun hHeld=>?_)
          clear hK K
          refine eZg (a':=?_) ?_ ?_
          rotate_left
          ·
           show Act.put _ (some 45) _=_
           simp only [Act.put,List.setIfInBounds_toArray,List.set_cons_zero,List.set_cons_succ,aZk,aZP]
           rfl
          refine one_ (i:=10) (N:=some 46) #[true,true,true,true,true,true,true,true,true,true,true,false,false] rfl rfl (bZt HT_.out (by kernel_rfl)) (by decide) (fun K hK=>?_)
          refine Kd.S_append_step (Kd.slice 9 Kd.string) (w0:=w) w.heap.size (by rfl) (.tmp 37) (.tmp 45) 24 22 (.slice none 0 0) 24 rfl Try.underlying24 info22 rfl (by decide) (by omega) u136002 x136002_1 y149 [.slice Ao37 y149.length co37] (fun k_=>some k_≠(.slice Ao15 y136.length co15:Value).ownBlock) (fun k_=>some k_=(.slice Ao37 y149.length co37:Value).ownBlock) rfl rfl ?aP (fun k_ hk_=>((Kd.R_mono (ok':=fun k_=>((fun k_=>some k_≠(.slice Ao15 y136.length co15:Value).ownBlock)) k_∧some k_≠(u136002:Value).ownBlock) (Kd.R_apart' (HO151.out) (Kd.S_typed HO_136002.out) (by decide)) (fun k_ hk=>⟨hk.1,hk.2⟩))).1 k_ hk_.symm) ?aF ?aO ?aB ?aS ?aL ?_
          (case aP=>exact Kd.M_row (Kd.R_mono (Kd.R_tight rfl (Kd.R_mono (ok':=fun k_=>((fun k_=>some k_≠(.slice Ao15 y136.length co15:Value).ownBlock)) k_∧some k_≠(u136002:Value).ownBlock) (Kd.R_apart' (HO151.out) (Kd.S_typed HO_136002.out) (by decide)) (fun k_ hk=>⟨hk.1,hk.2⟩))) (fun _ h_=>h_)))
          (case aB=>exact (by repeat (first|(with_reducible first|exact HB.out|apply aZb|apply aZa|apply aZc|refine aZf ?_ GE133.out|refine aZf ?_ GE134.out|refine aZf ?_ GE135.out)|exact HB.out)))
          (case aF=>exact (fun k_ hk=>Kd.fresh' (Kd.R_lt (by (with_reducible repeat (first|apply Kd.R_alloc|apply Kd.R_drewN|apply Kd.R_drew));exact HO_136000.out)) k_ hk))
          (case aO=>exact (by (with_reducible repeat (first|apply Kd.S_alloc|apply Kd.S_drewN|apply Kd.S_drew));exact Kd.S_mono HO_136002.out (fun k_ hk=>⟨hk.1,fun e_=>hk.2 e_⟩)))
          (case aS=>exact (aZl (by repeat (first|(with_reducible first|exact HB.out|apply aZb|apply aZa|apply aZc|refine aZf ?_ GE133.out|refine aZf ?_ GE134.out|refine aZf ?_ GE135.out)|exact HB.out))))
          (case aL=>have:=LMc28.out;omega)
          intro v153 w36 ho hb hg hat
          rw [←Ny152.out] at ho
          have n0_:=Aside0.mk (Kd.R_over' (by (with_reducible repeat (first|apply Kd.R_alloc|apply Kd.R_drewN|apply Kd.R_drew));exact HO_136000.out) (Kd.S_typed (by (with_reducible repeat (first|apply Kd.S_alloc|apply Kd.S_drewN|apply Kd.S_drew));exact HO_136002.out)) (by decide) hg)
          have n1_:=Aside0.mk (Kd.R_over' (by (with_reducible repeat (first|apply Kd.R_alloc|apply Kd.R_drewN|apply Kd.R_drew));exact HO_136001.out) (Kd.S_typed (by (with_reducible repeat (first|apply Kd.S_alloc|apply Kd.S_drewN|apply Kd.S_drew));exact HO_136002.out)) (by decide) hg)
          have n2_:=Aside0.mk (Kd.R_over' (by (with_reducible repeat (first|apply Kd.R_alloc|apply Kd.R_drewN|apply Kd.R_drew));exact HO_136004.out) (Kd.S_typed (by (with_reducible repeat (first|apply Kd.S_alloc|apply Kd.S_drewN|apply Kd.S_drew));exact HO_136002.out)) (by decide) hg)
          have n3_:=Aside0.mk (aZI (g:=gb133) (o:=.cells #[.slice A0_0 l0_0.length c0_0,.slice A0_1 l0_1.length c0_1,.slice (some ad148) l0_2.length c0_2,.slice A0_3 l0_3.length c0_3,.slice A0_4 l0_4.length c0_4,.int .i64 a0_5,.int .i64 a0_6] 28 (0,0)) (by (with_reducible repeat (first|refine aZi ?_ _|refine aZj ?_|refine aZh ?_ _));exact BK133.out) hg (Kd.S_ne HO_136002.out BK133.out (by decide)))
          have n4_:=Aside0.mk (aZI (g:=gb134) (o:=.cells #[.slice none 0 0,.slice none 0 0,.slice none 0 0,.slice none 0 0,.slice none 0 0,.int .i64 0,.int .i64 0] 28 (0,0)) (by (with_reducible repeat (first|refine aZi ?_ _|refine aZj ?_|refine aZh ?_ _));exact BK134.out) hg (Kd.S_ne HO_136002.out BK134.out (by decide)))
          have n5_:=Aside0.mk (aZI (g:=gb135) (o:=.cells #[.slice Ao15 y136.length co15,.slice Ao19 y139.length co19,u136002,.slice none 0 0,.slice Ao23 y142.length co23,.int .i64 a0_5,.int .i64 a0_6] 28 (0,0)) (by (with_reducible repeat (first|refine aZi ?_ _|refine aZj ?_|refine aZh ?_ _));exact BK135.out) hg (Kd.S_ne HO_136002.out BK135.out (by decide)))
          have n6_:=Aside0.mk (hb)
          have n7_:=Aside0.mk (ho)
          clear HO_136000
          clear HO_136001
          clear HO_136004
          clear BK133
          clear BK134
          clear BK135
          clear HB
          clear HO_136002
          clear HO151
          have HO_136000:=n0_
          have HO_136001:=n1_
          have HO_136004:=n2_
          have BK133:=n3_
          have BK134:=n4_
          have BK135:=n5_
          have HB:=n6_
          have HO154:=n7_
          clear n0_ n1_ n2_ n3_ n4_ n5_ n6_ n7_
          clear ho hb hg hat
          obtain ⟨Ao38,co38,eo38⟩:=Kd.S_slice HO154.out
          (first|subst eo38|(injection eo38 with f1_ f2_ f3_;have f4_:=f1_.symm;have f5_:=f3_.symm;clear f1_ f2_ f3_;subst f4_;subst f5_))
          refine hK.out _ _ ⟨(aZd BK135.out 0).trans rfl,(aZd BK135.out 1).trans rfl,(aZd BK135.out 2).trans rfl,(aZd BK135.out 3).trans rfl,(aZd BK135.out 4).trans rfl,(aZd BK135.out 5).trans rfl,(aZd BK135.out 6).trans rfl,(aZd BK133.out 0).trans rfl,(aZd BK133.out 1).trans rfl,(aZd BK133.out 2).trans rfl,(aZd BK133.out 3).trans rfl,(aZd BK133.out 4).trans rfl,(aZd BK133.out 5).trans rfl,(aZd BK133.out 6).trans rfl,((HB.out.cell (World.block_lt_of_cell? w _ hw148_0)).trans hw148_0)⟩ (fun hHeld=>?_)
          clear hK K
          refine eZg (a':=?_) ?_ ?_
          rotate_left
          ·
           show Act.put _ (some 46) _=_
           simp only [Act.put,List.setIfInBounds_toArray,List.set_cons_zero,List.set_cons_succ,aZk,aZP]
           rfl
          refine aZZ (i:=11) (N:=some 47) (v:=?_) (a':=?_) #[true,true,true,true,true,true,true,true,true,true,true,true,false] rfl rfl (aZF HT_.out (by kernel_rfl)) (fun _ _ _ h=>h) (Or.inl ⟨by rfl,?_⟩) ?_ ?_
          rotate_left
          ·
           intro w'
           go_simp
           with_reducible rfl
          rotate_left
          ·
           simp only [Act.put,List.setIfInBounds_toArray,List.set_cons_zero,List.set_cons_succ,aZk,aZP]
           rfl
          refine last_ (i:=12) (N:=none) #[true,true,true,true,true,true,true,true,true,true,true,true,true] rfl rfl (bZt HT_.out (by kernel_rfl)) (by decide) (fun K hK=>?_)
          have hs39:w36.cell? ⟨gb135,2,none⟩=some (u136002):=(aZd BK135.out 2).trans rfl
          have hfs39:=aZe BK135.out 2
          have hns39_0:=NB133_135.out
          have hns39_1:=NB134_135.out
          have hms39_0:=NB135_133.out
          have hms39_1:=NB135_134.out
          refine skip_ (w1:=?_) (by rfl) rfl ?_ ?_
          rotate_left
          ·
           go_simp
           rfl
          refine hK.out _ _ ?_
          clear hK K
          refine fZ2 (cZ1 HT_.out (by kernel_rfl)) ?_
          try go_wp2
          go_roundg k1
          case measure=>have:=HK1.out;omega
          case rel=>exact ⟨(wrap64 (x4_1+1)),(y152),(.slice Ao38 y152.length co38),(by first|rfl|(simp;done)|(simp [*];done)|(simp only [aZk];done)|(simp [aZk,Int.tdiv_eq_ediv_of_nonneg];done)),H',⟨by have:=HK1.out;omega⟩,⟨by (with_reducible repeat (first|apply Kd.R_alloc|apply Kd.R_drewN|apply Kd.R_drew));exact Kd.R_mono (Kd.R_far (p:=⟨gb135,2,none⟩) (Kd.R_types HO_136000.out BK135.out (by decide)) (fun _ hk=>hk.2) (.slice Ao38 y152.length co38)) (fun _ hk=>trivial)⟩,⟨by (with_reducible repeat (first|apply Kd.R_alloc|apply Kd.R_drewN|apply Kd.R_drew));exact Kd.R_mono (Kd.R_far (p:=⟨gb135,2,none⟩) (Kd.R_types HO_136001.out BK135.out (by decide)) (fun _ hk=>hk.2) (.slice Ao38 y152.length co38)) (fun _ hk=>trivial)⟩,⟨by (with_reducible repeat (first|apply Kd.S_alloc|apply Kd.S_drewN|apply Kd.S_drew));exact Kd.S_mono (Kd.S_far (p:=⟨gb135,2,none⟩) (Kd.S_types HO154.out BK135.out (by decide)) (fun _ hk=>hk.2) (.slice Ao38 y152.length co38)) (fun _ hk=>hk.1)⟩,⟨by (with_reducible repeat (first|apply Kd.R_alloc|apply Kd.R_drewN|apply Kd.R_drew));exact Kd.R_mono (Kd.R_far (p:=⟨gb135,2,none⟩) (Kd.R_types HO_136004.out BK135.out (by decide)) (fun _ hk=>hk.2) (.slice Ao38 y152.length co38)) (fun _ hk=>trivial)⟩,⟨by (with_reducible repeat (first|refine aZi ?_ _|refine aZj ?_|refine aZh ?_ _));refine aZJ ?_ NB133_135.out _;(with_reducible repeat (first|refine aZi ?_ _|refine aZj ?_|refine aZh ?_ _));exact BK133.out⟩,⟨by (with_reducible repeat (first|refine aZi ?_ _|refine aZj ?_|refine aZh ?_ _));refine aZJ ?_ NB134_135.out _;(with_reducible repeat (first|refine aZi ?_ _|refine aZj ?_|refine aZh ?_ _));exact BK134.out⟩,⟨by (with_reducible repeat (first|refine aZi ?_ _|refine aZj ?_|refine aZh ?_ _));refine aZH (cs:=#[.slice Ao15 y136.length co15,.slice Ao19 y139.length co19,u136002,.slice none 0 0,.slice Ao23 y142.length co23,.int .i64 a0_5,.int .i64 a0_6]) ?_ 2 _ rfl;(with_reducible repeat (first|refine aZi ?_ _|refine aZj ?_|refine aZh ?_ _));exact BK135.out⟩,⟨by repeat (first|(with_reducible first|exact HB.out|apply aZb|apply aZa|apply aZc|refine aZf ?_ GE133.out|refine aZf ?_ GE134.out|refine aZf ?_ GE135.out)|exact HB.out)⟩⟩
         ·
          rw [if_neg c28] at H
          exact absurd H (by simp)
        ·
         rw [if_neg c27] at H
         exact absurd H (by simp)
       ·
        rw [if_neg c26] at H
        exact absurd H (by simp)
      ·
       rw [if_neg c25] at H
       have c25b0:decide (x4_1<(l0_2.length:Int))=false:=decide_eq_false c25
       clear c25
       have H':=Aside0.mk H
       clear H
       have hnb40:=NB133_134.out
       have hnc40:=NB134_133.out
       have hnb41:=NB133_135.out
       have hnc41:=NB135_133.out
       have hcz42_0:wr.cell? ⟨gb133,0,none⟩=some (.slice A0_0 l0_0.length c0_0):=(aZd BK133.out 0).trans rfl
       have hcz42_1:wr.cell? ⟨gb133,1,none⟩=some (.slice A0_1 l0_1.length c0_1):=(aZd BK133.out 1).trans rfl
       have hcz42_2:wr.cell? ⟨gb133,2,none⟩=some (.slice A0_2 l0_2.length c0_2):=(aZd BK133.out 2).trans rfl
       have hcz42_3:wr.cell? ⟨gb133,3,none⟩=some (.slice A0_3 l0_3.length c0_3):=(aZd BK133.out 3).trans rfl
       have hcz42_4:wr.cell? ⟨gb133,4,none⟩=some (.slice A0_4 l0_4.length c0_4):=(aZd BK133.out 4).trans rfl
       have hcz42_5:wr.cell? ⟨gb133,5,none⟩=some (.int .i64 a0_5):=(aZd BK133.out 5).trans rfl
       have hcz42_6:wr.cell? ⟨gb133,6,none⟩=some (.int .i64 a0_6):=(aZd BK133.out 6).trans rfl
       have hfz42_0:=aZe BK133.out 0
       have hfz42_1:=aZe BK133.out 1
       have hfz42_2:=aZe BK133.out 2
       have hfz42_3:=aZe BK133.out 3
       have hfz42_4:=aZe BK133.out 4
       have hfz42_5:=aZe BK133.out 5
       have hfz42_6:=aZe BK133.out 6
       go_wp2
       go_loopg [5] k1 (fun kq v5 w'=>∃ (x5_2:Int) (x136003_2:List (List Int)) (u136003:Value),v5=.int .i64 x5_2∧Aside0 (berthref20_Copy.l1 kq x5_2 l0_0 l0_1 l0_2 l0_3 l0_4 a0_5 a0_6 y136 y139 x136002_1 x136003_2 y142 a0_5 a0_6=some (r1,r2,r3,r4,r5,r6,r7))∧Aside0 (kq≤k1)∧Aside0 (Kd.R Kd.string 9 w' w.heap.size (fun _=>True) (.slice Ao15 y136.length co15) y136)∧Aside0 (Kd.R (Kd.int .i64) 3 w' w.heap.size (fun _=>True) (.slice Ao19 y139.length co19) y139)∧Aside0 (Kd.S (Kd.slice 9 Kd.string) 22 w' w.heap.size (fun k_=>some k_≠((.slice Ao15 y136.length co15):Value).ownBlock) u136002 x136002_1)∧Aside0 (Kd.S (Kd.slice 3 (Kd.int .i64)) 23 w' w.heap.size (fun k_=>some k_≠((.slice Ao19 y139.length co19):Value).ownBlock) u136003 x136003_2)∧Aside0 (Kd.R k66 66 w' w.heap.size (fun _=>True) (.slice Ao23 y142.length co23) y142)∧Aside0 (w'.heap[gb133]?=some (.cells #[(.slice A0_0 l0_0.length c0_0),(.slice A0_1 l0_1.length c0_1),(.slice A0_2 l0_2.length c0_2),(.slice A0_3 l0_3.length c0_3),(.slice A0_4 l0_4.length c0_4),.int .i64 a0_5,.int .i64 a0_6] 28 (0,0)))∧Aside0 (w'.heap[gb134]?=some (.cells #[(.slice none 0 0),(.slice none 0 0),(.slice none 0 0),(.slice none 0 0),(.slice none 0 0),.int .i64 0,.int .i64 0] 28 (0,0)))∧Aside0 (w'.heap[gb135]?=some (.cells #[(.slice Ao15 y136.length co15),(.slice Ao19 y139.length co19),u136002,u136003,(.slice Ao23 y142.length co23),.int .i64 a0_5,.int .i64 a0_6] 28 (0,0)))∧Aside0 (Below w.heap.size w w'))
       case atStart=>exact ⟨(0),(([]:List (List Int))),(.slice none 0 0),(by first|rfl|(simp;done)|(simp [*];done)|(simp only [aZk];done)|(simp [aZk,Int.tdiv_eq_ediv_of_nonneg];done)),H',⟨Nat.le_refl _⟩,⟨by (with_reducible repeat (first|apply Kd.R_alloc|apply Kd.R_drewN|apply Kd.R_drew));exact HO_136000.out⟩,⟨by (with_reducible repeat (first|apply Kd.R_alloc|apply Kd.R_drewN|apply Kd.R_drew));exact HO_136001.out⟩,⟨by (with_reducible repeat (first|apply Kd.S_alloc|apply Kd.S_drewN|apply Kd.S_drew));exact HO_136002.out⟩,⟨by first|exact Kd.S_nil _ _ _ _ _|exact Kd.N_nil _ _ _ _ _|exact Kd.V_nil _ _ _ _ _|exact Kd.Q_nil _ _ _ _ _|exact Kd.R_nil _ _ _ _ _⟩,⟨by (with_reducible repeat (first|apply Kd.R_alloc|apply Kd.R_drewN|apply Kd.R_drew));exact HO_136004.out⟩,⟨by (with_reducible repeat (first|refine aZi ?_ _|refine aZj ?_|refine aZh ?_ _));exact BK133.out⟩,⟨by (with_reducible repeat (first|refine aZi ?_ _|refine aZj ?_|refine aZh ?_ _));exact BK134.out⟩,⟨by (with_reducible repeat (first|refine aZi ?_ _|refine aZj ?_|refine aZh ?_ _));exact BK135.out⟩,⟨by repeat (first|(with_reducible first|exact HB.out|apply aZb|apply aZa|apply aZc|refine aZf ?_ GE133.out|refine aZf ?_ GE134.out|refine aZf ?_ GE135.out)|exact HB.out)⟩⟩
       case round =>
        clear H'
        try clear c1
        try clear p1
        try clear q1
        try clear hx1
        try clear c2
        try clear p2
        try clear c3
        try clear c4
        try clear p6
        try clear c7
        try clear c10
        try clear c11
        try clear c12
        try clear c14
        try clear p14
        try clear q14
        try clear hx14
        try clear c25
        try clear c25b0
        try clear c26
        try clear c26b0
        try clear c27
        try clear c28
        try clear c29
        try clear c30
        try clear c40
        try clear c41
        try clear hcz12_0
        try clear hcz12_1
        try clear hcz12_2
        try clear hcz12_3
        try clear hcz12_4
        try clear hcz12_5
        try clear hcz12_6
        try clear hcz13_0
        try clear hcz13_1
        try clear hcz13_2
        try clear hcz13_3
        try clear hcz13_4
        try clear hcz13_5
        try clear hcz13_6
        try clear hcz16_0
        try clear hcz16_1
        try clear hcz16_2
        try clear hcz16_3
        try clear hcz16_4
        try clear hcz16_5
        try clear hcz16_6
        try clear hcz17_0
        try clear hcz17_1
        try clear hcz17_2
        try clear hcz17_3
        try clear hcz17_4
        try clear hcz17_5
        try clear hcz17_6
        try clear hcz20_0
        try clear hcz20_1
        try clear hcz20_2
        try clear hcz20_3
        try clear hcz20_4
        try clear hcz20_5
        try clear hcz20_6
        try clear hcz21_0
        try clear hcz21_1
        try clear hcz21_2
        try clear hcz21_3
        try clear hcz21_4
        try clear hcz21_5
        try clear hcz21_6
        try clear hcz24_0
        try clear hcz24_1
        try clear hcz24_2
        try clear hcz24_3
        try clear hcz24_4
        try clear hcz24_5
        try clear hcz24_6
        try clear hcz31_0
        try clear hcz31_1
        try clear hcz31_2
        try clear hcz31_3
        try clear hcz31_4
        try clear hcz31_5
        try clear hcz31_6
        try clear hcz42_0
        try clear hcz42_1
        try clear hcz42_2
        try clear hcz42_3
        try clear hcz42_4
        try clear hcz42_5
        try clear hcz42_6
        try clear hcz8_0
        try clear hcz8_1
        try clear hcz8_2
        try clear hcz8_3
        try clear hcz8_4
        try clear hcz8_5
        try clear hcz8_6
        try clear hfz12_0
        try clear hfz12_1
        try clear hfz12_2
        try clear hfz12_3
        try clear hfz12_4
        try clear hfz12_5
        try clear hfz12_6
        try clear hfz13_0
        try clear hfz13_1
        try clear hfz13_2
        try clear hfz13_3
        try clear hfz13_4
        try clear hfz13_5
        try clear hfz13_6
        try clear hfz16_0
        try clear hfz16_1
        try clear hfz16_2
        try clear hfz16_3
        try clear hfz16_4
        try clear hfz16_5
        try clear hfz16_6
        try clear hfz17_0
        try clear hfz17_1
        try clear hfz17_2
        try clear hfz17_3
        try clear hfz17_4
        try clear hfz17_5
        try clear hfz17_6
        try clear hfz20_0
        try clear hfz20_1
        try clear hfz20_2
        try clear hfz20_3
        try clear hfz20_4
        try clear hfz20_5
        try clear hfz20_6
        try clear hfz21_0
        try clear hfz21_1
        try clear hfz21_2
        try clear hfz21_3
        try clear hfz21_4
        try clear hfz21_5
        try clear hfz21_6
        try clear hfz24_0
        try clear hfz24_1
        try clear hfz24_2
        try clear hfz24_3
        try clear hfz24_4
        try clear hfz24_5
        try clear hfz24_6
        try clear hfz31_0
        try clear hfz31_1
        try clear hfz31_2
        try clear hfz31_3
        try clear hfz31_4
        try clear hfz31_5
        try clear hfz31_6
        try clear hfz42_0
        try clear hfz42_1
        try clear hfz42_2
        try clear hfz42_3
        try clear hfz42_4
        try clear hfz42_5
        try clear hfz42_6
        try clear hfz8_0
        try clear hfz8_1
        try clear hfz8_2
        try clear hfz8_3
        try clear hfz8_4
        try clear hfz8_5
        try clear hfz8_6
        try clear hx148_0
        try clear p148
        try clear p2
        try clear q148
        obtain ⟨x5_2,x136003_2,u136003,rfl,HA,HK2,HO_136000,HO_136001,HO_136002,HO_136003,HO_136004,BK133,BK134,BK135,HB⟩:=hrel
        cases gk with
        | zero=>exact absurd HA.out (by simp [berthref20_Copy.l1])
        | succ k2 =>
         have H:=HA.out
         clear HA
         simp only [berthref20_Copy.l1] at H
         by_cases c43:x5_2<(l0_3.length:Int)
         ·
          rw [if_pos c43] at H
          have c43b0:decide (x5_2<(l0_3.length:Int))=true:=decide_eq_true c43
          clear c43
          obtain ⟨y155,hy155⟩:∃ y_:List Int,y_=(([]:List Int)):=⟨_,rfl⟩
          replace H:(if 0≤x5_2 then (if y155.length+(cZQ l0_3 x5_2).length<17592186044416 then (if x136003_2.length<5864062014805 then (berthref20_Copy.l1 k2 (wrap64 (x5_2+1)) l0_0 l0_1 l0_2 l0_3 l0_4 a0_5 a0_6 y136 y139 x136002_1 (x136003_2++[(y155++(cZQ l0_3 x5_2))]) y142 a0_5 a0_6) else (none)) else (none)) else (none))=some (r1,r2,r3,r4,r5,r6,r7):=by first|(rw [hy155];with_reducible exact H)|(have H2_:=(Option.bind_some _ _).symm.trans H;rw [hy155];with_reducible exact H2_)|(have H2_:=(Option.bind_some _ _).symm.trans H;with_reducible exact H2_)|with_reducible exact H|(rw [hy155];exact H)|exact H
          have Ny155:=Aside0.mk hy155
          clear hy155
          by_cases c44:0≤x5_2
          ·
           rw [if_pos c44] at H
           have c44b0:decide (0≤x5_2)=true:=decide_eq_true c44
           clear c44
           by_cases c45:y155.length+(cZQ l0_3 x5_2).length<17592186044416
           ·
            rw [if_pos c45] at H
            have LMc45:=Aside0.mk c45
            clear c45
            obtain ⟨y159,hy159⟩:∃ y_:List Int,y_=(y155++(cZQ l0_3 x5_2)):=⟨_,rfl⟩
            replace H:(if x136003_2.length<5864062014805 then (berthref20_Copy.l1 k2 (wrap64 (x5_2+1)) l0_0 l0_1 l0_2 l0_3 l0_4 a0_5 a0_6 y136 y139 x136002_1 (x136003_2++[y159]) y142 a0_5 a0_6) else (none))=some (r1,r2,r3,r4,r5,r6,r7):=by first|(rw [hy159];with_reducible exact H)|(have H2_:=(Option.bind_some _ _).symm.trans H;rw [hy159];with_reducible exact H2_)|(have H2_:=(Option.bind_some _ _).symm.trans H;with_reducible exact H2_)|with_reducible exact H|(rw [hy159];exact H)|exact H
            have Ny159:=Aside0.mk hy159
            clear hy159
            by_cases c46:x136003_2.length<5864062014805
            ·
             rw [if_pos c46] at H
             have LMc46:=Aside0.mk c46
             clear c46
             obtain ⟨y162,hy162⟩:∃ y_:List (List Int),y_=(x136003_2++[y159]):=⟨_,rfl⟩
             replace H:(berthref20_Copy.l1 k2 (wrap64 (x5_2+1)) l0_0 l0_1 l0_2 l0_3 l0_4 a0_5 a0_6 y136 y139 x136002_1 y162 y142 a0_5 a0_6)=some (r1,r2,r3,r4,r5,r6,r7):=by first|(rw [hy162];with_reducible exact H)|(have H2_:=(Option.bind_some _ _).symm.trans H;rw [hy162];with_reducible exact H2_)|(have H2_:=(Option.bind_some _ _).symm.trans H;with_reducible exact H2_)|with_reducible exact H|(rw [hy162];exact H)|exact H
             have Ny162:=Aside0.mk hy162
             clear hy162
             have H':=Aside0.mk H
             clear H
             have hnb47:=NB133_134.out
             have hnc47:=NB134_133.out
             have hnb48:=NB133_135.out
             have hnc48:=NB135_133.out
             have hcz49_0:wr.cell? ⟨gb133,0,none⟩=some (.slice A0_0 l0_0.length c0_0):=(aZd BK133.out 0).trans rfl
             have hcz49_1:wr.cell? ⟨gb133,1,none⟩=some (.slice A0_1 l0_1.length c0_1):=(aZd BK133.out 1).trans rfl
             have hcz49_2:wr.cell? ⟨gb133,2,none⟩=some (.slice A0_2 l0_2.length c0_2):=(aZd BK133.out 2).trans rfl
             have hcz49_3:wr.cell? ⟨gb133,3,none⟩=some (.slice A0_3 l0_3.length c0_3):=(aZd BK133.out 3).trans rfl
             have hcz49_4:wr.cell? ⟨gb133,4,none⟩=some (.slice A0_4 l0_4.length c0_4):=(aZd BK133.out 4).trans rfl
             have hcz49_5:wr.cell? ⟨gb133,5,none⟩=some (.int .i64 a0_5):=(aZd BK133.out 5).trans rfl
             have hcz49_6:wr.cell? ⟨gb133,6,none⟩=some (.int .i64 a0_6):=(aZd BK133.out 6).trans rfl
             have hfz49_0:=aZe BK133.out 0
             have hfz49_1:=aZe BK133.out 1
             have hfz49_2:=aZe BK133.out 2
             have hfz49_3:=aZe BK133.out 3
             have hfz49_4:=aZe BK133.out 4
             have hfz49_5:=aZe BK133.out 5
             have hfz49_6:=aZe BK133.out 6
             try go_wp2
             have n0_:=Aside0.mk (Kd.R_drew HO_136000.out)
             have n1_:=Aside0.mk (Kd.R_drew HO_136001.out)
             have n2_:=Aside0.mk (Kd.S_drew HO_136002.out)
             have n3_:=Aside0.mk (Kd.S_drew HO_136003.out)
             have n4_:=Aside0.mk (Kd.R_drew HO_136004.out)
             have n5_:=Aside0.mk (aZj BK133.out)
             have n6_:=Aside0.mk (aZj BK134.out)
             have n7_:=Aside0.mk (aZj BK135.out)
             have n8_:=Aside0.mk (aZc HB.out)
             clear HO_136000
             clear HO_136001
             clear HO_136002
             clear HO_136003
             clear HO_136004
             clear BK133
             clear BK134
             clear BK135
             clear HB
             have HO_136000:=n0_
             have HO_136001:=n1_
             have HO_136002:=n2_
             have HO_136003:=n3_
             have HO_136004:=n4_
             have BK133:=n5_
             have BK134:=n6_
             have BK135:=n7_
             have HB:=n8_
             clear n0_ n1_ n2_ n3_ n4_ n5_ n6_ n7_ n8_
             have p158:0≤(x5_2:Int):=of_decide_eq_true (by first|(with_reducible assumption)|assumption)
             have q158:x5_2<(l0_3.length:Int):=of_decide_eq_true (by first|(with_reducible assumption)|assumption)
             obtain ⟨ad158,A158_0,c158_0,e158,hx158_0,hl158_0,hi158_0⟩:=at_L4 HR0_3.out x5_2 p158 q158
             have hw158_0:=hx158_0
             cases e158
             replace hx158_0:=(HB.out.cell (World.block_lt_of_cell? w _ hx158_0)).trans hx158_0
             have HR158_0:=Aside0.mk hi158_0
             have HC158_0:=Aside0.mk hl158_0
             clear hi158_0 hl158_0
             replace p158:=eq_true p158
             replace q158:=eq_true q158
             refine dZP (n:=13) (S:=fun w'=>w'.cell? ⟨gb135,0,none⟩=some (.slice Ao15 y136.length co15)∧w'.cell? ⟨gb135,1,none⟩=some (.slice Ao19 y139.length co19)∧w'.cell? ⟨gb135,2,none⟩=some (u136002)∧w'.cell? ⟨gb135,3,none⟩=some (u136003)∧w'.cell? ⟨gb135,4,none⟩=some (.slice Ao23 y142.length co23)∧w'.cell? ⟨gb135,5,none⟩=some (.int .i64 a0_5)∧w'.cell? ⟨gb135,6,none⟩=some (.int .i64 a0_6)∧w'.cell? ⟨gb133,0,none⟩=some (.slice A0_0 l0_0.length c0_0)∧w'.cell? ⟨gb133,1,none⟩=some (.slice A0_1 l0_1.length c0_1)∧w'.cell? ⟨gb133,2,none⟩=some (.slice A0_2 l0_2.length c0_2)∧w'.cell? ⟨gb133,3,none⟩=some (.slice (some ad158) l0_3.length c0_3)∧w'.cell? ⟨gb133,4,none⟩=some (.slice A0_4 l0_4.length c0_4)∧w'.cell? ⟨gb133,5,none⟩=some (.int .i64 a0_5)∧w'.cell? ⟨gb133,6,none⟩=some (.int .i64 a0_6)∧w'.cell? (ad158.add (x5_2).toNat)=some (.slice A158_0 (cZQ l0_3 x5_2).length c158_0)) (ds:=[12]) #[false,false,false,false,false,false,false,false,false,false,false,false,false] (by kernel_rfl) rfl rfl ⟨(aZd BK135.out 0).trans rfl,(aZd BK135.out 1).trans rfl,(aZd BK135.out 2).trans rfl,(aZd BK135.out 3).trans rfl,(aZd BK135.out 4).trans rfl,(aZd BK135.out 5).trans rfl,(aZd BK135.out 6).trans rfl,(aZd BK133.out 0).trans rfl,(aZd BK133.out 1).trans rfl,(aZd BK133.out 2).trans rfl,(aZd BK133.out 3).trans rfl,(aZd BK133.out 4).trans rfl,(aZd BK133.out 5).trans rfl,(aZd BK133.out 6).trans rfl,((HB.out.cell (World.block_lt_of_cell? w _ hw158_0)).trans hw158_0)⟩ (fun hHeld=>?_);refine bZY berthref20_Copy.tab12 berthref20_Copy.bits12 (fun HT_ HW_=>?_)
             generalize wr.drew=w50 at HO_136000 HO_136001 HO_136002 HO_136003 HO_136004 BK133 BK134 BK135 HB HR158_0 hx158_0 hHeld ⊢
             refine aZZ (i:=0) (N:=some 55) (v:=?_) (a':=?_) #[true,false,false,false,false,false,false,false,false,false,false,false,false] rfl rfl (aZF HT_.out (by kernel_rfl)) (fun _ _ _ h=>h) (Or.inl ⟨by rfl,?_⟩) ?_ ?_
             rotate_left
             ·
              intro w'
              go_simp
              with_reducible rfl
             rotate_left
             ·
              simp only [Act.put,List.setIfInBounds_toArray,List.set_cons_zero,List.set_cons_succ,aZk,aZP]
              rfl
             refine aZZ (i:=3) (N:=some 58) (v:=?_) (a':=?_) #[true,false,false,true,false,false,false,false,false,false,false,false,false] rfl rfl (aZF HT_.out (by kernel_rfl)) (fun _ _ _ h=>h) (Or.inl ⟨by rfl,?_⟩) ?_ ?_
             rotate_left
             ·
              intro w'
              go_simp
              with_reducible rfl
             rotate_left
             ·
              simp only [Act.put,List.setIfInBounds_toArray,List.set_cons_zero,List.set_cons_succ,aZk,aZP]
              rfl
             refine aZZ (i:=5) (N:=some 60) (v:=?_) (a':=?_) #[true,false,false,true,false,true,false,false,false,false,false,false,false] rfl rfl (aZF HT_.out (by kernel_rfl)) (fun _ _ _ h=>h) (Or.inl ⟨by rfl,?_⟩) ?_ ?_
             rotate_left
             ·
              intro w'
              go_simp
              with_reducible rfl
             rotate_left
             ·
              simp only [Act.put,List.setIfInBounds_toArray,List.set_cons_zero,List.set_cons_succ,aZk,aZP]
              rfl
             refine take_ (i:=1) (N:=some 56) (v:=?_) (a':=?_) #[true,true,false,true,false,true,false,false,false,false,false,false,false] rfl rfl (aZV HT_.out HW_.out (by kernel_rfl)) (fun _ _ _ h=>h) (Or.inl ⟨by rfl,?_⟩) hHeld ?_ ?_
             rotate_left
             ·
              rintro w' ⟨s0,s1,s2,s3,s4,s5,s6,s7,s8,s9,s10,s11,s12,s13,s14⟩
              go_simp
              with_reducible rfl
             rotate_left
             ·
              simp only [Act.put,List.setIfInBounds_toArray,List.set_cons_zero,List.set_cons_succ,aZk,aZP]
              rfl
             refine take_ (i:=4) (N:=some 59) (v:=?_) (a':=?_) #[true,true,false,true,true,true,false,false,false,false,false,false,false] rfl rfl (aZV HT_.out HW_.out (by kernel_rfl)) (fun _ _ _ h=>h) (Or.inl ⟨by rfl,?_⟩) hHeld ?_ ?_
             rotate_left
             ·
              rintro w' ⟨s0,s1,s2,s3,s4,s5,s6,s7,s8,s9,s10,s11,s12,s13,s14⟩
              go_simp
              with_reducible rfl
             rotate_left
             ·
              simp only [Act.put,List.setIfInBounds_toArray,List.set_cons_zero,List.set_cons_succ,aZk,aZP]
              rfl
             refine aZZ (i:=6) (N:=some 61) (v:=?_) (a':=?_) #[true,true,false,true,true,true,true,false,false,false,false,false,false] rfl rfl (aZF HT_.out (by kernel_rfl)) (fun _ _ _ h=>h) (Or.inl ⟨by rfl,?_⟩) ?_ ?_
             rotate_left
             ·
              intro w'
              go_simp
              with_reducible rfl
             rotate_left
             ·
              simp only [Act.put,List.setIfInBounds_toArray,List.set_cons_zero,List.set_cons_succ,aZk,aZP]
              rfl
             refine take_ (i:=7) (N:=some 62) (v:=?_) (a':=?_) #[true,true,false,true,true,true,true,true,false,false,false,false,false] rfl rfl (aZV HT_.out HW_.out (by kernel_rfl)) (fun _ _ _ h=>h) (Or.inl ⟨by rfl,?_⟩) hHeld ?_ ?_
             rotate_left
             ·
              rintro w' ⟨s0,s1,s2,s3,s4,s5,s6,s7,s8,s9,s10,s11,s12,s13,s14⟩
              go_simp
              with_reducible rfl
             rotate_left
             ·
              simp only [Act.put,List.setIfInBounds_toArray,List.set_cons_zero,List.set_cons_succ,aZk,aZP]
              rfl
             refine one_ (i:=2) (N:=some 57) #[true,true,true,true,true,true,true,true,false,false,false,false,false] rfl rfl (bZt HT_.out (by kernel_rfl)) (by decide) (fun K hK=>?_)
             refine Kd.R_lit_step (Kd.int .i64) _ 3 ?hg (N:=57) ?hd (xs:=([]:List Int)) (inner:=[]) (ok:=fun _=>True) (okp:=fun _=>True) ?hr ?hp (fun _ hk=>hk) trivial (Below.refl _ _) (Nat.le_refl _) (by simp) ?_;(case hd=>rfl);(case hg=>rfl);(case hr=>first|(go_simp;done)|(go_simp;rfl));(case hp=>exact (Reps.none _ _))
             intro v156 w51 ho52 hb hg_ hnew_
             clear hg_ hnew_
             (first|rw [←Ny155.out] at ho52|(simp only [Int.reduceToNat] at ho52;rw [←Ny155.out] at ho52))
             have n0_:=Aside0.mk (Kd.R_below (by (with_reducible repeat (first|apply Kd.R_alloc|apply Kd.R_drewN|apply Kd.R_drew));exact HO_136000.out) hb)
             have n1_:=Aside0.mk (Kd.R_elder' (by (with_reducible repeat (first|apply Kd.R_alloc|apply Kd.R_drewN|apply Kd.R_drew));exact HO_136001.out) (Kd.R_base ho52) hb)
             have n2_:=Aside0.mk (Kd.S_below (by (with_reducible repeat (first|apply Kd.S_alloc|apply Kd.S_drewN|apply Kd.S_drew));exact HO_136002.out) hb)
             have n3_:=Aside0.mk (Kd.S_elder' (by (with_reducible repeat (first|apply Kd.S_alloc|apply Kd.S_drewN|apply Kd.S_drew));exact HO_136003.out) (Kd.R_base ho52) hb)
             have n4_:=Aside0.mk (Kd.R_below (by (with_reducible repeat (first|apply Kd.R_alloc|apply Kd.R_drewN|apply Kd.R_drew));exact HO_136004.out) hb)
             have n5_:=Aside0.mk (Kd.R_lower (Kd.R_new' ho52 (Kd.R_lt (by (with_reducible repeat (first|apply Kd.R_alloc|apply Kd.R_drewN|apply Kd.R_drew));exact HO_136001.out))) (aZl (by repeat (first|(with_reducible first|exact HB.out|apply aZb|apply aZa|apply aZc|refine aZf ?_ GE133.out|refine aZf ?_ GE134.out|refine aZf ?_ GE135.out)|exact HB.out))))
             have n6_:=Aside0.mk (aZN (g:=gb133) (o:=.cells #[.slice A0_0 l0_0.length c0_0,.slice A0_1 l0_1.length c0_1,.slice A0_2 l0_2.length c0_2,.slice (some ad158) l0_3.length c0_3,.slice A0_4 l0_4.length c0_4,.int .i64 a0_5,.int .i64 a0_6] 28 (0,0)) (by (with_reducible repeat (first|refine aZi ?_ _|refine aZj ?_|refine aZh ?_ _));exact BK133.out) hb)
             have n7_:=Aside0.mk (aZN (g:=gb134) (o:=.cells #[.slice none 0 0,.slice none 0 0,.slice none 0 0,.slice none 0 0,.slice none 0 0,.int .i64 0,.int .i64 0] 28 (0,0)) (by (with_reducible repeat (first|refine aZi ?_ _|refine aZj ?_|refine aZh ?_ _));exact BK134.out) hb)
             have n8_:=Aside0.mk (aZN (g:=gb135) (o:=.cells #[.slice Ao15 y136.length co15,.slice Ao19 y139.length co19,u136002,u136003,.slice Ao23 y142.length co23,.int .i64 a0_5,.int .i64 a0_6] 28 (0,0)) (by (with_reducible repeat (first|refine aZi ?_ _|refine aZj ?_|refine aZh ?_ _));exact BK135.out) hb)
             have n9_:=Aside0.mk (aZo (by repeat (first|(with_reducible first|exact HB.out|apply aZb|apply aZa|apply aZc|refine aZf ?_ GE133.out|refine aZf ?_ GE134.out|refine aZf ?_ GE135.out)|exact HB.out)) hb)
             clear HO_136000
             clear HO_136001
             clear HO_136002
             clear HO_136003
             clear HO_136004
             clear BK133
             clear BK134
             clear BK135
             clear HB
             have HO_136000:=n0_
             have HO_136001:=n1_
             have HO_136002:=n2_
             have HO_136003:=n3_
             have HO_136004:=n4_
             have HO157:=n5_
             have BK133:=n6_
             have BK134:=n7_
             have BK135:=n8_
             have HB:=n9_
             clear n0_ n1_ n2_ n3_ n4_ n5_ n6_ n7_ n8_ n9_
             clear hb ho52
             refine hK.out _ _ ⟨(aZd BK135.out 0).trans rfl,(aZd BK135.out 1).trans rfl,(aZd BK135.out 2).trans rfl,(aZd BK135.out 3).trans rfl,(aZd BK135.out 4).trans rfl,(aZd BK135.out 5).trans rfl,(aZd BK135.out 6).trans rfl,(aZd BK133.out 0).trans rfl,(aZd BK133.out 1).trans rfl,(aZd BK133.out 2).trans rfl,(aZd BK133.out 3).trans rfl,(aZd BK133.out 4).trans rfl,(aZd BK133.out 5).trans rfl,(aZd BK133.out 6).trans rfl,((HB.out.cell (World.block_lt_of_cell? w _ hw158_0)).trans hw158_0)⟩ (fun hHeld=>?_)
             clear hK K
             refine eZg (a':=?_) ?_ ?_
             rotate_left
             ·
              show Act.put _ (some 57) _=_
              simp only [Act.put,List.setIfInBounds_toArray,List.set_cons_zero,List.set_cons_succ,aZk,aZP]
              rfl
             refine one_ (i:=8) (N:=some 63) #[true,true,true,true,true,true,true,true,true,false,false,false,false] rfl rfl (bZt HT_.out (by kernel_rfl)) (by decide) (fun K hK=>?_)
             refine Kd.R_append_rows_step (Kd.int .i64) (w0:=w) w.heap.size (by rfl) (.tmp 57) (.tmp 62) 23 3 (.int .i64 0) 8 rfl Try.underlying23 info3 rfl (by decide) (by omega) v156 y155 (cZQ l0_3 x5_2) _ _ _ (fun k_=>some k_≠(.slice Ao19 y139.length co19:Value).ownBlock) (fun _=>False) rfl rfl ?aO ?aR (fun _ _ h=>h) (fun _ h=>h.elim) ?aF ?aB ?aS ?aL ?_
             (case aR=>repeat (first|exact (Kd.C_below HR158_0.out HB.out)|(with_reducible refine Kd.C_alloc ?_ _)|(with_reducible refine Kd.C_drewN ?_ _)|(with_reducible refine Kd.C_drew ?_)))
             (case aB=>exact (by repeat (first|(with_reducible first|exact HB.out|apply aZb|apply aZa|apply aZc|refine aZf ?_ GE133.out|refine aZf ?_ GE134.out|refine aZf ?_ GE135.out)|exact HB.out)))
             (case aF=>exact (fun k_ hk=>Kd.fresh' (Kd.R_lt (by (with_reducible repeat (first|apply Kd.R_alloc|apply Kd.R_drewN|apply Kd.R_drew));exact HO_136001.out)) k_ hk))
             (case aO=>exact (by (with_reducible repeat (first|apply Kd.R_alloc|apply Kd.R_drewN|apply Kd.R_drew));exact Kd.R_mono HO157.out (fun _ hk=>hk.2)))
             (case aS=>exact (aZl (by repeat (first|(with_reducible first|exact HB.out|apply aZb|apply aZa|apply aZc|refine aZf ?_ GE133.out|refine aZf ?_ GE134.out|refine aZf ?_ GE135.out)|exact HB.out))))
             (case aL=>have:=LMc45.out;omega)
             intro v160 w53 ho hb hg hat
             rw [←Ny159.out] at ho
             have n0_:=Aside0.mk (Kd.R_over' (by (with_reducible repeat (first|apply Kd.R_alloc|apply Kd.R_drewN|apply Kd.R_drew));exact HO_136000.out) (Kd.R_typed (by (with_reducible repeat (first|apply Kd.R_alloc|apply Kd.R_drewN|apply Kd.R_drew));exact HO157.out)) (by decide) hg)
             have n1_:=Aside0.mk (Kd.R_after (ok:=(fun _=>True)) (by (with_reducible repeat (first|apply Kd.R_alloc|apply Kd.R_drewN|apply Kd.R_drew));exact HO_136001.out) hg hat)
             have n2_:=Aside0.mk (Kd.S_over' (by (with_reducible repeat (first|apply Kd.S_alloc|apply Kd.S_drewN|apply Kd.S_drew));exact HO_136002.out) (Kd.R_typed (by (with_reducible repeat (first|apply Kd.R_alloc|apply Kd.R_drewN|apply Kd.R_drew));exact HO157.out)) (by decide) hg)
             have n3_:=Aside0.mk (Kd.S_after (ok:=(fun k_=>some k_≠(.slice Ao19 y139.length co19:Value).ownBlock)) (by (with_reducible repeat (first|apply Kd.S_alloc|apply Kd.S_drewN|apply Kd.S_drew));exact HO_136003.out) hg hat)
             have n4_:=Aside0.mk (Kd.R_over' (by (with_reducible repeat (first|apply Kd.R_alloc|apply Kd.R_drewN|apply Kd.R_drew));exact HO_136004.out) (Kd.R_typed (by (with_reducible repeat (first|apply Kd.R_alloc|apply Kd.R_drewN|apply Kd.R_drew));exact HO157.out)) (by decide) hg)
             have n5_:=Aside0.mk (aZI (g:=gb133) (o:=.cells #[.slice A0_0 l0_0.length c0_0,.slice A0_1 l0_1.length c0_1,.slice A0_2 l0_2.length c0_2,.slice (some ad158) l0_3.length c0_3,.slice A0_4 l0_4.length c0_4,.int .i64 a0_5,.int .i64 a0_6] 28 (0,0)) (by (with_reducible repeat (first|refine aZi ?_ _|refine aZj ?_|refine aZh ?_ _));exact BK133.out) hg (Kd.R_ne HO157.out BK133.out (by decide)))
             have n6_:=Aside0.mk (aZI (g:=gb134) (o:=.cells #[.slice none 0 0,.slice none 0 0,.slice none 0 0,.slice none 0 0,.slice none 0 0,.int .i64 0,.int .i64 0] 28 (0,0)) (by (with_reducible repeat (first|refine aZi ?_ _|refine aZj ?_|refine aZh ?_ _));exact BK134.out) hg (Kd.R_ne HO157.out BK134.out (by decide)))
             have n7_:=Aside0.mk (aZI (g:=gb135) (o:=.cells #[.slice Ao15 y136.length co15,.slice Ao19 y139.length co19,u136002,u136003,.slice Ao23 y142.length co23,.int .i64 a0_5,.int .i64 a0_6] 28 (0,0)) (by (with_reducible repeat (first|refine aZi ?_ _|refine aZj ?_|refine aZh ?_ _));exact BK135.out) hg (Kd.R_ne HO157.out BK135.out (by decide)))
             have n8_:=Aside0.mk (hb)
             have n9_:=Aside0.mk (ho)
             clear HO_136000
             clear HO_136001
             clear HO_136002
             clear HO_136003
             clear HO_136004
             clear BK133
             clear BK134
             clear BK135
             clear HB
             clear HO157
             have HO_136000:=n0_
             have HO_136001:=n1_
             have HO_136002:=n2_
             have HO_136003:=n3_
             have HO_136004:=n4_
             have BK133:=n5_
             have BK134:=n6_
             have BK135:=n7_
             have HB:=n8_
             have HO161:=n9_
             clear n0_ n1_ n2_ n3_ n4_ n5_ n6_ n7_ n8_ n9_
             clear ho hb hg hat
             obtain ⟨Ao55,co55,eo55⟩:=Kd.R_slice HO161.out
             (first|subst eo55|(injection eo55 with f1_ f2_ f3_;have f4_:=f1_.symm;have f5_:=f3_.symm;clear f1_ f2_ f3_;subst f4_;subst f5_))
             refine hK.out _ _ ⟨(aZd BK135.out 0).trans rfl,(aZd BK135.out 1).trans rfl,(aZd BK135.out 2).trans rfl,(aZd BK135.out 3).trans rfl,(aZd BK135.out 4).trans rfl,(aZd BK135.out 5).trans rfl,(aZd BK135.out 6).trans rfl,(aZd BK133.out 0).trans rfl,(aZd BK133.out 1).trans rfl,(aZd BK133.out 2).trans rfl,(aZd BK133.out 3).trans rfl,(aZd BK133.out 4).trans rfl,(aZd BK133.out 5).trans rfl,(aZd BK133.out 6).trans rfl,((HB.out.cell (World.block_lt_of_cell? w _ hw158_0)).trans hw158_0)⟩ (fun hHeld=>?_)
             clear hK K
             refine eZg (a':=?_) ?_ ?_
             rotate_left
             ·
              show Act.put _ (some 63) _=_
              simp only [Act.put,List.setIfInBounds_toArray,List.set_cons_zero,List.set_cons_succ,aZk,aZP]
              rfl
             refine one_ (i:=9) (N:=some 64) #[true,true,true,true,true,true,true,true,true,true,false,false,false] rfl rfl (bZt HT_.out (by kernel_rfl)) (by decide) (fun K hK=>?_)
             refine value_ (w1:=?_) (v:=?_) (by rfl) rfl ?_ ?_
             rotate_left 2
             ·
              go_simp
              constructor
              · rfl
              · rfl
             refine hK.out _ _ ⟨(aZd (aZh BK135.out _) 0).trans rfl,(aZd (aZh BK135.out _) 1).trans rfl,(aZd (aZh BK135.out _) 2).trans rfl,(aZd (aZh BK135.out _) 3).trans rfl,(aZd (aZh BK135.out _) 4).trans rfl,(aZd (aZh BK135.out _) 5).trans rfl,(aZd (aZh BK135.out _) 6).trans rfl,(aZd (aZh BK133.out _) 0).trans rfl,(aZd (aZh BK133.out _) 1).trans rfl,(aZd (aZh BK133.out _) 2).trans rfl,(aZd (aZh BK133.out _) 3).trans rfl,(aZd (aZh BK133.out _) 4).trans rfl,(aZd (aZh BK133.out _) 5).trans rfl,(aZd (aZh BK133.out _) 6).trans rfl,(World.cell?_alloc_lt _ _ _ (World.block_lt_of_cell? _ _ (((HB.out.cell (World.block_lt_of_cell? w _ hw158_0)).trans hw158_0)))).trans (((HB.out.cell (World.block_lt_of_cell? w _ hw158_0)).trans hw158_0))⟩ (fun hHeld=>?_)
             clear hK K
             refine eZg (a':=?_) ?_ ?_
             rotate_left
             ·
              show Act.put _ (some 64) _=_
              simp only [Act.put,List.setIfInBounds_toArray,List.set_cons_zero,List.set_cons_succ,aZk,aZP]
              rfl
             refine one_ (i:=10) (N:=some 65) #[true,true,true,true,true,true,true,true,true,true,true,false,false] rfl rfl (bZt HT_.out (by kernel_rfl)) (by decide) (fun K hK=>?_)
             refine Kd.S_append_step (Kd.slice 3 (Kd.int .i64)) (w0:=w) w.heap.size (by rfl) (.tmp 56) (.tmp 64) 25 23 (.slice none 0 0) 24 rfl Try.underlying25 info23 rfl (by decide) (by omega) u136003 x136003_2 y159 [.slice Ao55 y159.length co55] (fun k_=>some k_≠(.slice Ao19 y139.length co19:Value).ownBlock) (fun k_=>some k_=(.slice Ao55 y159.length co55:Value).ownBlock) rfl rfl ?aP (fun k_ hk_=>((Kd.R_mono (ok':=fun k_=>((fun k_=>some k_≠(.slice Ao19 y139.length co19:Value).ownBlock)) k_∧some k_≠(u136003:Value).ownBlock) (Kd.R_apart' (HO161.out) (Kd.S_typed HO_136003.out) (by decide)) (fun k_ hk=>⟨hk.1,hk.2⟩))).1 k_ hk_.symm) ?aF ?aO ?aB ?aS ?aL ?_
             (case aP=>exact Kd.M_row (Kd.R_mono (Kd.R_tight rfl (Kd.R_mono (ok':=fun k_=>((fun k_=>some k_≠(.slice Ao19 y139.length co19:Value).ownBlock)) k_∧some k_≠(u136003:Value).ownBlock) (Kd.R_apart' (HO161.out) (Kd.S_typed HO_136003.out) (by decide)) (fun k_ hk=>⟨hk.1,hk.2⟩))) (fun _ h_=>h_)))
             (case aB=>exact (by repeat (first|(with_reducible first|exact HB.out|apply aZb|apply aZa|apply aZc|refine aZf ?_ GE133.out|refine aZf ?_ GE134.out|refine aZf ?_ GE135.out)|exact HB.out)))
             (case aF=>exact (fun k_ hk=>Kd.fresh' (Kd.R_lt (by (with_reducible repeat (first|apply Kd.R_alloc|apply Kd.R_drewN|apply Kd.R_drew));exact HO_136001.out)) k_ hk))
             (case aO=>exact (by (with_reducible repeat (first|apply Kd.S_alloc|apply Kd.S_drewN|apply Kd.S_drew));exact Kd.S_mono HO_136003.out (fun k_ hk=>⟨hk.1,fun e_=>hk.2 e_⟩)))
             (case aS=>exact (aZl (by repeat (first|(with_reducible first|exact HB.out|apply aZb|apply aZa|apply aZc|refine aZf ?_ GE133.out|refine aZf ?_ GE134.out|refine aZf ?_ GE135.out)|exact HB.out))))
             (case aL=>have:=LMc46.out;omega)
             intro v163 w54 ho hb hg hat
             rw [←Ny162.out] at ho
             have n0_:=Aside0.mk (Kd.R_over' (by (with_reducible repeat (first|apply Kd.R_alloc|apply Kd.R_drewN|apply Kd.R_drew));exact HO_136000.out) (Kd.S_typed (by (with_reducible repeat (first|apply Kd.S_alloc|apply Kd.S_drewN|apply Kd.S_drew));exact HO_136003.out)) (by decide) hg)
             have n1_:=Aside0.mk (Kd.R_over' (by (with_reducible repeat (first|apply Kd.R_alloc|apply Kd.R_drewN|apply Kd.R_drew));exact HO_136001.out) (Kd.S_typed (by (with_reducible repeat (first|apply Kd.S_alloc|apply Kd.S_drewN|apply Kd.S_drew));exact HO_136003.out)) (by decide) hg)
             have n2_:=Aside0.mk (Kd.S_over' (by (with_reducible repeat (first|apply Kd.S_alloc|apply Kd.S_drewN|apply Kd.S_drew));exact HO_136002.out) (Kd.S_typed (by (with_reducible repeat (first|apply Kd.S_alloc|apply Kd.S_drewN|apply Kd.S_drew));exact HO_136003.out)) (by decide) hg)
             have n3_:=Aside0.mk (Kd.R_over' (by (with_reducible repeat (first|apply Kd.R_alloc|apply Kd.R_drewN|apply Kd.R_drew));exact HO_136004.out) (Kd.S_typed (by (with_reducible repeat (first|apply Kd.S_alloc|apply Kd.S_drewN|apply Kd.S_drew));exact HO_136003.out)) (by decide) hg)
             have n4_:=Aside0.mk (aZI (g:=gb133) (o:=.cells #[.slice A0_0 l0_0.length c0_0,.slice A0_1 l0_1.length c0_1,.slice A0_2 l0_2.length c0_2,.slice (some ad158) l0_3.length c0_3,.slice A0_4 l0_4.length c0_4,.int .i64 a0_5,.int .i64 a0_6] 28 (0,0)) (by (with_reducible repeat (first|refine aZi ?_ _|refine aZj ?_|refine aZh ?_ _));exact BK133.out) hg (Kd.S_ne HO_136003.out BK133.out (by decide)))
             have n5_:=Aside0.mk (aZI (g:=gb134) (o:=.cells #[.slice none 0 0,.slice none 0 0,.slice none 0 0,.slice none 0 0,.slice none 0 0,.int .i64 0,.int .i64 0] 28 (0,0)) (by (with_reducible repeat (first|refine aZi ?_ _|refine aZj ?_|refine aZh ?_ _));exact BK134.out) hg (Kd.S_ne HO_136003.out BK134.out (by decide)))
             have n6_:=Aside0.mk (aZI (g:=gb135) (o:=.cells #[.slice Ao15 y136.length co15,.slice Ao19 y139.length co19,u136002,u136003,.slice Ao23 y142.length co23,.int .i64 a0_5,.int .i64 a0_6] 28 (0,0)) (by (with_reducible repeat (first|refine aZi ?_ _|refine aZj ?_|refine aZh ?_ _));exact BK135.out) hg (Kd.S_ne HO_136003.out BK135.out (by decide)))
             have n7_:=Aside0.mk (hb)
             have n8_:=Aside0.mk (ho)
             clear HO_136000
             clear HO_136001
             clear HO_136002
             clear HO_136004
             clear BK133
             clear BK134
             clear BK135
             clear HB
             clear HO_136003
             clear HO161
             have HO_136000:=n0_
             have HO_136001:=n1_
             have HO_136002:=n2_
             have HO_136004:=n3_
             have BK133:=n4_
             have BK134:=n5_
             have BK135:=n6_
             have HB:=n7_
             have HO164:=n8_
             clear n0_ n1_ n2_ n3_ n4_ n5_ n6_ n7_ n8_
             clear ho hb hg hat
             obtain ⟨Ao56,co56,eo56⟩:=Kd.S_slice HO164.out
             (first|subst eo56|(injection eo56 with f1_ f2_ f3_;have f4_:=f1_.symm;have f5_:=f3_.symm;clear f1_ f2_ f3_;subst f4_;subst f5_))
             refine hK.out _ _ ⟨(aZd BK135.out 0).trans rfl,(aZd BK135.out 1).trans rfl,(aZd BK135.out 2).trans rfl,(aZd BK135.out 3).trans rfl,(aZd BK135.out 4).trans rfl,(aZd BK135.out 5).trans rfl,(aZd BK135.out 6).trans rfl,(aZd BK133.out 0).trans rfl,(aZd BK133.out 1).trans rfl,(aZd BK133.out 2).trans rfl,(aZd BK133.out 3).trans rfl,(aZd BK133.out 4).trans rfl,(aZd BK133.out 5).trans rfl,(aZd BK133.out 6).trans rfl,((HB.out.cell (World.block_lt_of_cell? w _ hw158_0)).trans hw158_0)⟩ (fun hHeld=>?_)
             clear hK K
             refine eZg (a':=?_) ?_ ?_
             rotate_left
             ·
              show Act.put _ (some 65) _=_
              simp only [Act.put,List.setIfInBounds_toArray,List.set_cons_zero,List.set_cons_succ,aZk,aZP]
              rfl
             refine aZZ (i:=11) (N:=some 66) (v:=?_) (a':=?_) #[true,true,true,true,true,true,true,true,true,true,true,true,false] rfl rfl (aZF HT_.out (by kernel_rfl)) (fun _ _ _ h=>h) (Or.inl ⟨by rfl,?_⟩) ?_ ?_
             rotate_left
             ·
              intro w'
              go_simp
              with_reducible rfl
             rotate_left
             ·
              simp only [Act.put,List.setIfInBounds_toArray,List.set_cons_zero,List.set_cons_succ,aZk,aZP]
              rfl
             refine last_ (i:=12) (N:=none) #[true,true,true,true,true,true,true,true,true,true,true,true,true] rfl rfl (bZt HT_.out (by kernel_rfl)) (by decide) (fun K hK=>?_)
             have hs57:w54.cell? ⟨gb135,3,none⟩=some (u136003):=(aZd BK135.out 3).trans rfl
             have hfs57:=aZe BK135.out 3
             have hns57_0:=NB133_135.out
             have hns57_1:=NB134_135.out
             have hms57_0:=NB135_133.out
             have hms57_1:=NB135_134.out
             refine skip_ (w1:=?_) (by rfl) rfl ?_ ?_
             rotate_left
             ·
              go_simp
              rfl
             refine hK.out _ _ ?_
             clear hK K
             refine fZ2 (cZ1 HT_.out (by kernel_rfl)) ?_
             try go_wp2
             go_roundg k2
             case measure=>have:=HK1.out;have:=HK2.out;omega
             case rel=>exact ⟨(wrap64 (x5_2+1)),(y162),(.slice Ao56 y162.length co56),(by first|rfl|(simp;done)|(simp [*];done)|(simp only [aZk];done)|(simp [aZk,Int.tdiv_eq_ediv_of_nonneg];done)),H',⟨by have:=HK1.out;have:=HK2.out;omega⟩,⟨by (with_reducible repeat (first|apply Kd.R_alloc|apply Kd.R_drewN|apply Kd.R_drew));exact Kd.R_mono (Kd.R_far (p:=⟨gb135,3,none⟩) (Kd.R_types HO_136000.out BK135.out (by decide)) (fun _ hk=>hk.2) (.slice Ao56 y162.length co56)) (fun _ hk=>trivial)⟩,⟨by (with_reducible repeat (first|apply Kd.R_alloc|apply Kd.R_drewN|apply Kd.R_drew));exact Kd.R_mono (Kd.R_far (p:=⟨gb135,3,none⟩) (Kd.R_types HO_136001.out BK135.out (by decide)) (fun _ hk=>hk.2) (.slice Ao56 y162.length co56)) (fun _ hk=>trivial)⟩,⟨by (with_reducible repeat (first|apply Kd.S_alloc|apply Kd.S_drewN|apply Kd.S_drew));exact Kd.S_mono (Kd.S_far (p:=⟨gb135,3,none⟩) (Kd.S_types HO_136002.out BK135.out (by decide)) (fun _ hk=>hk.2) (.slice Ao56 y162.length co56)) (fun _ hk=>hk.1)⟩,⟨by (with_reducible repeat (first|apply Kd.S_alloc|apply Kd.S_drewN|apply Kd.S_drew));exact Kd.S_mono (Kd.S_far (p:=⟨gb135,3,none⟩) (Kd.S_types HO164.out BK135.out (by decide)) (fun _ hk=>hk.2) (.slice Ao56 y162.length co56)) (fun _ hk=>hk.1)⟩,⟨by (with_reducible repeat (first|apply Kd.R_alloc|apply Kd.R_drewN|apply Kd.R_drew));exact Kd.R_mono (Kd.R_far (p:=⟨gb135,3,none⟩) (Kd.R_types HO_136004.out BK135.out (by decide)) (fun _ hk=>hk.2) (.slice Ao56 y162.length co56)) (fun _ hk=>trivial)⟩,⟨by (with_reducible repeat (first|refine aZi ?_ _|refine aZj ?_|refine aZh ?_ _));refine aZJ ?_ NB133_135.out _;(with_reducible repeat (first|refine aZi ?_ _|refine aZj ?_|refine aZh ?_ _));exact BK133.out⟩,⟨by (with_reducible repeat (first|refine aZi ?_ _|refine aZj ?_|refine aZh ?_ _));refine aZJ ?_ NB134_135.out _;(with_reducible repeat (first|refine aZi ?_ _|refine aZj ?_|refine aZh ?_ _));exact BK134.out⟩,⟨by (with_reducible repeat (first|refine aZi ?_ _|refine aZj ?_|refine aZh ?_ _));refine aZH (cs:=#[.slice Ao15 y136.length co15,.slice Ao19 y139.length co19,u136002,u136003,.slice Ao23 y142.length co23,.int .i64 a0_5,.int .i64 a0_6]) ?_ 3 _ rfl;(with_reducible repeat (first|refine aZi ?_ _|refine aZj ?_|refine aZh ?_ _));exact BK135.out⟩,⟨by repeat (first|(with_reducible first|exact HB.out|apply aZb|apply aZa|apply aZc|refine aZf ?_ GE133.out|refine aZf ?_ GE134.out|refine aZf ?_ GE135.out)|exact HB.out)⟩⟩
            ·
             rw [if_neg c46] at H
             exact absurd H (by simp)
           ·
            rw [if_neg c45] at H
            exact absurd H (by simp)
          ·
           rw [if_neg c44] at H
           exact absurd H (by simp)
         ·
          rw [if_neg c43] at H
          have c43b0:decide (x5_2<(l0_3.length:Int))=false:=decide_eq_false c43
          clear c43
          simp only [Option.some.injEq,Prod.mk.injEq] at H
          obtain ⟨rfl,rfl,rfl,rfl,rfl,rfl,rfl⟩:=H
          have hnb58:=NB133_134.out
          have hnc58:=NB134_133.out
          have hnb59:=NB133_135.out
          have hnc59:=NB135_133.out
          have hcz60_0:wr.cell? ⟨gb133,0,none⟩=some (.slice A0_0 l0_0.length c0_0):=(aZd BK133.out 0).trans rfl
          have hcz60_1:wr.cell? ⟨gb133,1,none⟩=some (.slice A0_1 l0_1.length c0_1):=(aZd BK133.out 1).trans rfl
          have hcz60_2:wr.cell? ⟨gb133,2,none⟩=some (.slice A0_2 l0_2.length c0_2):=(aZd BK133.out 2).trans rfl
          have hcz60_3:wr.cell? ⟨gb133,3,none⟩=some (.slice A0_3 l0_3.length c0_3):=(aZd BK133.out 3).trans rfl
          have hcz60_4:wr.cell? ⟨gb133,4,none⟩=some (.slice A0_4 l0_4.length c0_4):=(aZd BK133.out 4).trans rfl
          have hcz60_5:wr.cell? ⟨gb133,5,none⟩=some (.int .i64 a0_5):=(aZd BK133.out 5).trans rfl
          have hcz60_6:wr.cell? ⟨gb133,6,none⟩=some (.int .i64 a0_6):=(aZd BK133.out 6).trans rfl
          have hfz60_0:=aZe BK133.out 0
          have hfz60_1:=aZe BK133.out 1
          have hfz60_2:=aZe BK133.out 2
          have hfz60_3:=aZe BK133.out 3
          have hfz60_4:=aZe BK133.out 4
          have hfz60_5:=aZe BK133.out 5
          have hfz60_6:=aZe BK133.out 6
          have hnb61:=NB135_134.out
          have hnc61:=NB134_135.out
          have hcz62_0:wr.cell? ⟨gb135,0,none⟩=some (.slice Ao15 y136.length co15):=(aZd BK135.out 0).trans rfl
          have hcz62_1:wr.cell? ⟨gb135,1,none⟩=some (.slice Ao19 y139.length co19):=(aZd BK135.out 1).trans rfl
          have hcz62_2:wr.cell? ⟨gb135,2,none⟩=some (u136002):=(aZd BK135.out 2).trans rfl
          have hcz62_3:wr.cell? ⟨gb135,3,none⟩=some (u136003):=(aZd BK135.out 3).trans rfl
          have hcz62_4:wr.cell? ⟨gb135,4,none⟩=some (.slice Ao23 y142.length co23):=(aZd BK135.out 4).trans rfl
          have hcz62_5:wr.cell? ⟨gb135,5,none⟩=some (.int .i64 a0_5):=(aZd BK135.out 5).trans rfl
          have hcz62_6:wr.cell? ⟨gb135,6,none⟩=some (.int .i64 a0_6):=(aZd BK135.out 6).trans rfl
          have hfz62_0:=aZe BK135.out 0
          have hfz62_1:=aZe BK135.out 1
          have hfz62_2:=aZe BK135.out 2
          have hfz62_3:=aZe BK135.out 3
          have hfz62_4:=aZe BK135.out 4
          have hfz62_5:=aZe BK135.out 5
          have hfz62_6:=aZe BK135.out 6
          have hcz63_0:wr.cell? ⟨gb134,0,none⟩=some (.slice none 0 0):=(aZd BK134.out 0).trans rfl
          have hcz63_1:wr.cell? ⟨gb134,1,none⟩=some (.slice none 0 0):=(aZd BK134.out 1).trans rfl
          have hcz63_2:wr.cell? ⟨gb134,2,none⟩=some (.slice none 0 0):=(aZd BK134.out 2).trans rfl
          have hcz63_3:wr.cell? ⟨gb134,3,none⟩=some (.slice none 0 0):=(aZd BK134.out 3).trans rfl
          have hcz63_4:wr.cell? ⟨gb134,4,none⟩=some (.slice none 0 0):=(aZd BK134.out 4).trans rfl
          have hcz63_5:wr.cell? ⟨gb134,5,none⟩=some (.int .i64 0):=(aZd BK134.out 5).trans rfl
          have hcz63_6:wr.cell? ⟨gb134,6,none⟩=some (.int .i64 0):=(aZd BK134.out 6).trans rfl
          have hfz63_0:=aZe BK134.out 0
          have hfz63_1:=aZe BK134.out 1
          have hfz63_2:=aZe BK134.out 2
          have hfz63_3:=aZe BK134.out 3
          have hfz63_4:=aZe BK134.out 4
          have hfz63_5:=aZe BK134.out 5
          have hfz63_6:=aZe BK134.out 6
          obtain ⟨Ao64,co64,eo64⟩:=Kd.S_slice HO_136002.out
          subst eo64
          obtain ⟨Ao65,co65,eo65⟩:=Kd.S_slice HO_136003.out
          subst eo65
          go_wp2
          refine bodyPost_ret (results_cell_row rfl _ _ gb134 28 #[.slice Ao15 y136.length co15,.slice Ao19 y139.length co19,.slice Ao64 x136002_1.length co64,.slice Ao65 x136003_2.length co65,.slice Ao23 y142.length co23,.int .i64 a0_5,.int .i64 a0_6] (0,0) _ rfl (by (with_reducible repeat (first|refine aZi ?_ _|refine aZj ?_|refine aZh ?_ _));refine aZH (cs:=#[.slice Ao15 y136.length co15,.slice Ao19 y139.length co19,.slice Ao64 x136002_1.length co64,.slice Ao65 x136003_2.length co65,.slice Ao23 y142.length co23,.int .i64 a0_5,.int .i64 0]) ?_ 6 _ rfl;(with_reducible repeat (first|refine aZi ?_ _|refine aZj ?_|refine aZh ?_ _));refine aZH (cs:=#[.slice Ao15 y136.length co15,.slice Ao19 y139.length co19,.slice Ao64 x136002_1.length co64,.slice Ao65 x136003_2.length co65,.slice Ao23 y142.length co23,.int .i64 0,.int .i64 0]) ?_ 5 _ rfl;(with_reducible repeat (first|refine aZi ?_ _|refine aZj ?_|refine aZh ?_ _));refine aZH (cs:=#[.slice Ao15 y136.length co15,.slice Ao19 y139.length co19,.slice Ao64 x136002_1.length co64,.slice Ao65 x136003_2.length co65,.slice none 0 0,.int .i64 0,.int .i64 0]) ?_ 4 _ rfl;(with_reducible repeat (first|refine aZi ?_ _|refine aZj ?_|refine aZh ?_ _));refine aZH (cs:=#[.slice Ao15 y136.length co15,.slice Ao19 y139.length co19,.slice Ao64 x136002_1.length co64,.slice none 0 0,.slice none 0 0,.int .i64 0,.int .i64 0]) ?_ 3 _ rfl;(with_reducible repeat (first|refine aZi ?_ _|refine aZj ?_|refine aZh ?_ _));refine aZH (cs:=#[.slice Ao15 y136.length co15,.slice Ao19 y139.length co19,.slice none 0 0,.slice none 0 0,.slice none 0 0,.int .i64 0,.int .i64 0]) ?_ 2 _ rfl;(with_reducible repeat (first|refine aZi ?_ _|refine aZj ?_|refine aZh ?_ _));refine aZH (cs:=#[.slice Ao15 y136.length co15,.slice none 0 0,.slice none 0 0,.slice none 0 0,.slice none 0 0,.int .i64 0,.int .i64 0]) ?_ 1 _ rfl;(with_reducible repeat (first|refine aZi ?_ _|refine aZj ?_|refine aZh ?_ _));refine aZH (cs:=#[.slice none 0 0,.slice none 0 0,.slice none 0 0,.slice none 0 0,.slice none 0 0,.int .i64 0,.int .i64 0]) ?_ 0 _ rfl;(with_reducible repeat (first|refine aZi ?_ _|refine aZj ?_|refine aZh ?_ _));exact BK134.out) Try.underlying28 rfl (by kernel_rfl)) rfl ?_
          exact ⟨_,_,_,_,_,by first|rfl|(simp [errW_none,errW_some] <;> rfl)|(simp [*,errW_none,errW_some] <;> rfl),by (with_reducible repeat (first|apply Kd.R_alloc|apply Kd.R_drewN|apply Kd.R_drew));exact Kd.R_mono (Kd.R_far (p:=⟨gb134,6,none⟩) (Kd.R_far (p:=⟨gb134,5,none⟩) (Kd.R_far (p:=⟨gb134,4,none⟩) (Kd.R_far (p:=⟨gb134,3,none⟩) (Kd.R_far (p:=⟨gb134,2,none⟩) (Kd.R_far (p:=⟨gb134,1,none⟩) (Kd.R_far (p:=⟨gb134,0,none⟩) (Kd.R_types HO_136000.out BK134.out (by decide)) (fun _ hk=>hk.2) (.slice Ao15 y136.length co15)) (fun _ hk=>hk.2) (.slice Ao19 y139.length co19)) (fun _ hk=>hk.2) (.slice Ao64 x136002_1.length co64)) (fun _ hk=>hk.2) (.slice Ao65 x136003_2.length co65)) (fun _ hk=>hk.2) (.slice Ao23 y142.length co23)) (fun _ hk=>hk.2) (.int .i64 a0_5)) (fun _ hk=>hk.2) (.int .i64 a0_6)) (fun _ hk=>trivial),by (with_reducible repeat (first|apply Kd.R_alloc|apply Kd.R_drewN|apply Kd.R_drew));exact Kd.R_mono (Kd.R_far (p:=⟨gb134,6,none⟩) (Kd.R_far (p:=⟨gb134,5,none⟩) (Kd.R_far (p:=⟨gb134,4,none⟩) (Kd.R_far (p:=⟨gb134,3,none⟩) (Kd.R_far (p:=⟨gb134,2,none⟩) (Kd.R_far (p:=⟨gb134,1,none⟩) (Kd.R_far (p:=⟨gb134,0,none⟩) (Kd.R_types HO_136001.out BK134.out (by decide)) (fun _ hk=>hk.2) (.slice Ao15 y136.length co15)) (fun _ hk=>hk.2) (.slice Ao19 y139.length co19)) (fun _ hk=>hk.2) (.slice Ao64 x136002_1.length co64)) (fun _ hk=>hk.2) (.slice Ao65 x136003_2.length co65)) (fun _ hk=>hk.2) (.slice Ao23 y142.length co23)) (fun _ hk=>hk.2) (.int .i64 a0_5)) (fun _ hk=>hk.2) (.int .i64 a0_6)) (fun _ hk=>trivial),by (with_reducible repeat (first|apply Kd.S_alloc|apply Kd.S_drewN|apply Kd.S_drew));exact Kd.S_mono (Kd.S_far (p:=⟨gb134,6,none⟩) (Kd.S_far (p:=⟨gb134,5,none⟩) (Kd.S_far (p:=⟨gb134,4,none⟩) (Kd.S_far (p:=⟨gb134,3,none⟩) (Kd.S_far (p:=⟨gb134,2,none⟩) (Kd.S_far (p:=⟨gb134,1,none⟩) (Kd.S_far (p:=⟨gb134,0,none⟩) (Kd.S_types HO_136002.out BK134.out (by decide)) (fun _ hk=>hk.2) (.slice Ao15 y136.length co15)) (fun _ hk=>hk.2) (.slice Ao19 y139.length co19)) (fun _ hk=>hk.2) (.slice Ao64 x136002_1.length co64)) (fun _ hk=>hk.2) (.slice Ao65 x136003_2.length co65)) (fun _ hk=>hk.2) (.slice Ao23 y142.length co23)) (fun _ hk=>hk.2) (.int .i64 a0_5)) (fun _ hk=>hk.2) (.int .i64 a0_6)) (fun _ hk=>hk.1),by (with_reducible repeat (first|apply Kd.S_alloc|apply Kd.S_drewN|apply Kd.S_drew));exact Kd.S_mono (Kd.S_far (p:=⟨gb134,6,none⟩) (Kd.S_far (p:=⟨gb134,5,none⟩) (Kd.S_far (p:=⟨gb134,4,none⟩) (Kd.S_far (p:=⟨gb134,3,none⟩) (Kd.S_far (p:=⟨gb134,2,none⟩) (Kd.S_far (p:=⟨gb134,1,none⟩) (Kd.S_far (p:=⟨gb134,0,none⟩) (Kd.S_types HO_136003.out BK134.out (by decide)) (fun _ hk=>hk.2) (.slice Ao15 y136.length co15)) (fun _ hk=>hk.2) (.slice Ao19 y139.length co19)) (fun _ hk=>hk.2) (.slice Ao64 x136002_1.length co64)) (fun _ hk=>hk.2) (.slice Ao65 x136003_2.length co65)) (fun _ hk=>hk.2) (.slice Ao23 y142.length co23)) (fun _ hk=>hk.2) (.int .i64 a0_5)) (fun _ hk=>hk.2) (.int .i64 a0_6)) (fun _ hk=>hk.1),by (with_reducible repeat (first|apply Kd.R_alloc|apply Kd.R_drewN|apply Kd.R_drew));exact Kd.R_mono (Kd.R_far (p:=⟨gb134,6,none⟩) (Kd.R_far (p:=⟨gb134,5,none⟩) (Kd.R_far (p:=⟨gb134,4,none⟩) (Kd.R_far (p:=⟨gb134,3,none⟩) (Kd.R_far (p:=⟨gb134,2,none⟩) (Kd.R_far (p:=⟨gb134,1,none⟩) (Kd.R_far (p:=⟨gb134,0,none⟩) (Kd.R_types HO_136004.out BK134.out (by decide)) (fun _ hk=>hk.2) (.slice Ao15 y136.length co15)) (fun _ hk=>hk.2) (.slice Ao19 y139.length co19)) (fun _ hk=>hk.2) (.slice Ao64 x136002_1.length co64)) (fun _ hk=>hk.2) (.slice Ao65 x136003_2.length co65)) (fun _ hk=>hk.2) (.slice Ao23 y142.length co23)) (fun _ hk=>hk.2) (.int .i64 a0_5)) (fun _ hk=>hk.2) (.int .i64 a0_6)) (fun _ hk=>trivial),by repeat (first|(with_reducible first|exact HB.out|apply aZb|apply aZa|apply aZc|refine aZf ?_ GE133.out|refine aZf ?_ GE134.out|refine aZf ?_ GE135.out)|exact HB.out)⟩
   ·
    rw [if_neg c4] at H
    exact absurd H (by simp)
  ·
   rw [if_neg c3] at H
   exact absurd H (by simp)
 ·
  rw [if_neg c2] at H
  exact absurd H (by simp)
end Go.Proofs.Ytbnplhmmbnmagaa.All
