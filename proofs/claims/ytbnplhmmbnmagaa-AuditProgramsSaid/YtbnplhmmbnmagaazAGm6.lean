/- A part of the proof of AuditPrograms: walks written by a program of this session. -/
import Derived.Test.YtbnplhmmbnmagaazAGm2
import Derived.Test.YtbnplhmmbnmagaazAGm4
import Derived.Test.YtbnplhmmbnmagaazAGm3
set_option maxHeartbeats 4000000
set_option maxRecDepth 100000
set_option linter.unusedVariables false
set_option linter.unusedSimpArgs false
namespace Go.Proofs.Ytbnplhmmbnmagaa.All
open Go.RowKit Go.Proofs.YtbnplhmmbnmagaaW.PrintWords Go.Proofs.YtbnplhmmbnmagaaW.PrintLast Go.Proofs.YtbnplhmmbnmagaaW.PrintMore
attribute [local go_sem] bZO bZM cZa bZ9 bZj bZi bZN bZL
attribute [local go_sem] Go.Proofs.YtbnplhmmbnmagaaX.binOp_leq Go.Proofs.YtbnplhmmbnmagaaX.binOp_geq Go.Proofs.YtbnplhmmbnmagaaX.binOp_gtr
def berthlaw21_sameCells.l0:Nat→List Int→List Int→Int→Option (Bool)
  | 0,_,_,_=>none
  | k+1,x0,x1,x5=>if x5<(x0.length:Int) then (if 0≤x5 then (if x5<(x1.length:Int) then (if (rd x0 x5)=(rd x1 x5) then (berthlaw21_sameCells.l0 k x0 x1 (wrap64 (x5+1))) else (some false)) else (none)) else (none)) else (some true)
def berthlaw21_sameCells.f (k:Nat) (l0:List Int) (l1:List Int):Option (Bool):=if (l0.length:Int)=(l1.length:Int) then (berthlaw21_sameCells.l0 k l0 l1 0) else (some false)
theorem berthlaw21_sameCells.calls (k:Nat) (A0:Option Addr) (c0:Nat) (l0:List Int) (A1:Option Addr) (c1:Nat) (l1:List Int) (r:Bool) (w:World) (hr0:Kd.C (Kd.int .i64) w A0 l0.length l0) (hc0:l0.length≤c0) (hr1:Kd.C (Kd.int .i64) w A1 l1.length l1) (hc1:l1.length≤c1) (h:berthlaw21_sameCells.f k l0 l1=some r) :
 Calls Try.prog 17 #[.slice A0 l0.length c0,.slice A1 l1.length c1] w fun e w'=>e=.returned (.bool r)∧Drawn0 w w':=by
 have HR0:=Aside0.mk hr0
 have HC0:=Aside0.mk hc0
 clear hr0 hc0
 have HR1:=Aside0.mk hr1
 have HC1:=Aside0.mk hc1
 clear hr1 hc1
 have H:(if (l0.length:Int)=(l1.length:Int) then (berthlaw21_sameCells.l0 k l0 l1 0) else (some false))=some r:=h
 clear h
 by_cases c3:(l0.length:Int)=(l1.length:Int)
 ·
  rw [if_pos c3] at H
  have c3b0:((l0.length:Int) == (l1.length:Int))=true:=beq_iff_eq.mpr c3
  have c3b1:((l0.length:Int) != (l1.length:Int))=false:=bne_eq_false_iff_eq.mpr c3
  have c3b2:(l0.length == l1.length)=true:=by first|simpa using c3|(simp at c3 ⊢;omega)
  clear c3
  have H':=Aside0.mk H
  clear H
  go_enter Try.func17,Try.ntmps17
  go_wp2
  repeat (go_quiet (fail);try go_wp2)
  go_loopg [5] k (fun kq v5 w'=>∃ (x5_1:Int),v5=.int .i64 x5_1∧Aside0 (berthlaw21_sameCells.l0 kq l0 l1 x5_1=some r)∧Aside0 (kq≤k)∧Drawn0 w w')
  case atStart=>exact ⟨(0),(by first|rfl|(simp;done)|(simp [*];done)|(simp only [aZk];done)|(simp [aZk,Int.tdiv_eq_ediv_of_nonneg];done)),H',⟨Nat.le_refl _⟩,by repeat (first|exact Drawn0.refl _|apply Drawn0.step)⟩
  case round =>
   clear H'
   try clear c1
   try clear p2
   try clear c3
   try clear c3b0
   try clear c3b1
   try clear c3b2
   obtain ⟨x5_1,rfl,HA,HK1,⟨m1,rfl⟩⟩:=hrel
   cases gk with
   | zero=>exact absurd HA.out (by simp [berthlaw21_sameCells.l0])
   | succ k1 =>
    have H:=HA.out
    clear HA
    simp only [berthlaw21_sameCells.l0] at H
    by_cases c4:x5_1<(l0.length:Int)
    ·
     rw [if_pos c4] at H
     have c4b0:decide (x5_1<(l0.length:Int))=true:=decide_eq_true c4
     clear c4
     by_cases c5:0≤x5_1
     ·
      rw [if_pos c5] at H
      have c5b0:decide (0≤x5_1)=true:=decide_eq_true c5
      clear c5
      by_cases c6:x5_1<(l1.length:Int)
      ·
       rw [if_pos c6] at H
       have c6b0:decide (x5_1<(l1.length:Int))=true:=decide_eq_true c6
       clear c6
       by_cases c7:(rd l0 x5_1)=(rd l1 x5_1)
       ·
        rw [if_pos c7] at H
        have c7b0:((rd l0 x5_1) == (rd l1 x5_1))=true:=beq_iff_eq.mpr c7
        have c7b1:((rd l0 x5_1) != (rd l1 x5_1))=false:=bne_eq_false_iff_eq.mpr c7
        clear c7
        have H':=Aside0.mk H
        clear H
        have p282:0≤(x5_1:Int):=of_decide_eq_true (by first|(with_reducible assumption)|assumption)
        have q282:x5_1<(l0.length:Int):=of_decide_eq_true (by first|(with_reducible assumption)|assumption)
        obtain ⟨ad282,e282,hx282_0⟩:=Kd.at_int HR0.out x5_1 p282 q282
        cases e282
        replace p282:=eq_true p282
        replace q282:=eq_true q282
        have p283:0≤(x5_1:Int):=of_decide_eq_true (by first|(with_reducible assumption)|assumption)
        have q283:x5_1<(l1.length:Int):=of_decide_eq_true (by first|(with_reducible assumption)|assumption)
        obtain ⟨ad283,e283,hx283_0⟩:=Kd.at_int HR1.out x5_1 p283 q283
        cases e283
        replace p283:=eq_true p283
        replace q283:=eq_true q283
        go_wp2
        repeat (go_quiet (fail);try go_wp2)
        go_roundg k1
        case measure=>have:=HK1.out;omega
        case rel=>exact ⟨(wrap64 (x5_1+1)),(by first|rfl|(simp;done)|(simp [*];done)|(simp only [aZk];done)|(simp [aZk,Int.tdiv_eq_ediv_of_nonneg];done)),H',⟨by have:=HK1.out;omega⟩,by repeat (first|exact Drawn0.refl _|apply Drawn0.step)⟩
       ·
        rw [if_neg c7] at H
        have c7b0:((rd l0 x5_1) == (rd l1 x5_1))=false:=beq_eq_false_iff_ne.mpr c7
        have c7b1:((rd l0 x5_1) != (rd l1 x5_1))=true:=bne_iff_ne.mpr c7
        obtain rfl:=Option.some.inj H
        have p282:0≤(x5_1:Int):=of_decide_eq_true (by first|(with_reducible assumption)|assumption)
        have q282:x5_1<(l0.length:Int):=of_decide_eq_true (by first|(with_reducible assumption)|assumption)
        obtain ⟨ad282,e282,hx282_0⟩:=Kd.at_int HR0.out x5_1 p282 q282
        cases e282
        replace p282:=eq_true p282
        replace q282:=eq_true q282
        have p283:0≤(x5_1:Int):=of_decide_eq_true (by first|(with_reducible assumption)|assumption)
        have q283:x5_1<(l1.length:Int):=of_decide_eq_true (by first|(with_reducible assumption)|assumption)
        obtain ⟨ad283,e283,hx283_0⟩:=Kd.at_int HR1.out x5_1 p283 q283
        cases e283
        replace p283:=eq_true p283
        replace q283:=eq_true q283
        go_wp2
        repeat (go_quiet (fail);try go_wp2)
        go_ret
        exact ⟨by first|rfl|(simp;done)|(simp [*];done)|(simp only [aZk];done)|(simp [aZk,Int.tdiv_eq_ediv_of_nonneg];done),by repeat (first|exact Drawn0.refl _|apply Drawn0.step)⟩
      ·
       rw [if_neg c6] at H
       exact absurd H (by simp)
     ·
      rw [if_neg c5] at H
      exact absurd H (by simp)
    ·
     rw [if_neg c4] at H
     have c4b0:decide (x5_1<(l0.length:Int))=false:=decide_eq_false c4
     clear c4
     obtain rfl:=Option.some.inj H
     go_wp2
     repeat (go_quiet (fail);try go_wp2)
     go_ret
     exact ⟨by first|rfl|(simp;done)|(simp [*];done)|(simp only [aZk];done)|(simp [aZk,Int.tdiv_eq_ediv_of_nonneg];done),by repeat (first|exact Drawn0.refl _|apply Drawn0.step)⟩
 ·
  rw [if_neg c3] at H
  have c3b0:((l0.length:Int) == (l1.length:Int))=false:=beq_eq_false_iff_ne.mpr c3
  have c3b1:((l0.length:Int) != (l1.length:Int))=true:=bne_iff_ne.mpr c3
  have c3b2:(l0.length == l1.length)=false:=by first|simpa using c3|(simp at c3 ⊢;omega)
  obtain rfl:=Option.some.inj H
  go_enter Try.func17,Try.ntmps17
  go_wp2
  repeat (go_quiet (fail);try go_wp2)
  go_ret
  exact ⟨by first|rfl|(simp;done)|(simp [*];done)|(simp only [aZk];done)|(simp [aZk,Int.tdiv_eq_ediv_of_nonneg];done),by repeat (first|exact Drawn0.refl _|apply Drawn0.step)⟩
end Go.Proofs.Ytbnplhmmbnmagaa.All
namespace Go.Proofs.Ytbnplhmmbnmagaa.All
open Go.RowKit Go.Proofs.YtbnplhmmbnmagaaW.PrintWords Go.Proofs.YtbnplhmmbnmagaaW.PrintLast Go.Proofs.YtbnplhmmbnmagaaW.PrintMore
attribute [local go_sem] bZO bZM cZa bZ9 bZj bZi bZN bZL
attribute [local go_sem] Go.Proofs.YtbnplhmmbnmagaaX.binOp_leq Go.Proofs.YtbnplhmmbnmagaaX.binOp_geq Go.Proofs.YtbnplhmmbnmagaaX.binOp_gtr
def B3 (u:Bool × Bool × Bool):Value:=.agg #[.bool u.1,.bool u.2.1,.bool u.2.2]
def bZ6 (op:Int):Bool × Bool × Bool :=
  if op=8∨op=9∨op=10∨op=11∨op=15∨op=27∨op=28∨op=29∨op=30∨op=35∨op=36 then (false,false,false) else if op=19∨op=21∨op=22∨op=23 then (false,true,false) else if op=12∨op=17 then (true,true,false) else if op=25 then (true,false,true) else if op=18∨op=20 then (false,true,true) else if op=16 then (true,true,true) else (true,false,false)
theorem uses.w8 (w:World):Calls Try.prog 51 #[.int .i64 8] w fun re w'=>re=.returned (B3 (false,false,false))∧Below w.heap.size w w':=by
 go_enter Try.func51,Try.ntmps51
 go_wp2
 refine bodyPost_ret (results_cell_row rfl _ _ w.heap.size _ _ _ _ rfl (heap_alloc_new w _) Try.underlying119 rfl rfl) rfl ?_
 exact ⟨rfl,by go_grown⟩
theorem uses.w9 (w:World):Calls Try.prog 51 #[.int .i64 9] w fun re w'=>re=.returned (B3 (false,false,false))∧Below w.heap.size w w':=by
 go_enter Try.func51,Try.ntmps51
 go_wp2
 refine bodyPost_ret (results_cell_row rfl _ _ w.heap.size _ _ _ _ rfl (heap_alloc_new w _) Try.underlying119 rfl rfl) rfl ?_
 exact ⟨rfl,by go_grown⟩
theorem uses.w10 (w:World):Calls Try.prog 51 #[.int .i64 10] w fun re w'=>re=.returned (B3 (false,false,false))∧Below w.heap.size w w':=by
 go_enter Try.func51,Try.ntmps51
 go_wp2
 refine bodyPost_ret (results_cell_row rfl _ _ w.heap.size _ _ _ _ rfl (heap_alloc_new w _) Try.underlying119 rfl rfl) rfl ?_
 exact ⟨rfl,by go_grown⟩
theorem uses.w11 (w:World):Calls Try.prog 51 #[.int .i64 11] w fun re w'=>re=.returned (B3 (false,false,false))∧Below w.heap.size w w':=by
 go_enter Try.func51,Try.ntmps51
 go_wp2
 refine bodyPost_ret (results_cell_row rfl _ _ w.heap.size _ _ _ _ rfl (heap_alloc_new w _) Try.underlying119 rfl rfl) rfl ?_
 exact ⟨rfl,by go_grown⟩
theorem uses.w15 (w:World):Calls Try.prog 51 #[.int .i64 15] w fun re w'=>re=.returned (B3 (false,false,false))∧Below w.heap.size w w':=by
 go_enter Try.func51,Try.ntmps51
 go_wp2
 refine bodyPost_ret (results_cell_row rfl _ _ w.heap.size _ _ _ _ rfl (heap_alloc_new w _) Try.underlying119 rfl rfl) rfl ?_
 exact ⟨rfl,by go_grown⟩
theorem uses.w27 (w:World):Calls Try.prog 51 #[.int .i64 27] w fun re w'=>re=.returned (B3 (false,false,false))∧Below w.heap.size w w':=by
 go_enter Try.func51,Try.ntmps51
 go_wp2
 refine bodyPost_ret (results_cell_row rfl _ _ w.heap.size _ _ _ _ rfl (heap_alloc_new w _) Try.underlying119 rfl rfl) rfl ?_
 exact ⟨rfl,by go_grown⟩
theorem uses.w28 (w:World):Calls Try.prog 51 #[.int .i64 28] w fun re w'=>re=.returned (B3 (false,false,false))∧Below w.heap.size w w':=by
 go_enter Try.func51,Try.ntmps51
 go_wp2
 refine bodyPost_ret (results_cell_row rfl _ _ w.heap.size _ _ _ _ rfl (heap_alloc_new w _) Try.underlying119 rfl rfl) rfl ?_
 exact ⟨rfl,by go_grown⟩
theorem uses.w29 (w:World):Calls Try.prog 51 #[.int .i64 29] w fun re w'=>re=.returned (B3 (false,false,false))∧Below w.heap.size w w':=by
 go_enter Try.func51,Try.ntmps51
 go_wp2
 refine bodyPost_ret (results_cell_row rfl _ _ w.heap.size _ _ _ _ rfl (heap_alloc_new w _) Try.underlying119 rfl rfl) rfl ?_
 exact ⟨rfl,by go_grown⟩
theorem uses.w30 (w:World):Calls Try.prog 51 #[.int .i64 30] w fun re w'=>re=.returned (B3 (false,false,false))∧Below w.heap.size w w':=by
 go_enter Try.func51,Try.ntmps51
 go_wp2
 refine bodyPost_ret (results_cell_row rfl _ _ w.heap.size _ _ _ _ rfl (heap_alloc_new w _) Try.underlying119 rfl rfl) rfl ?_
 exact ⟨rfl,by go_grown⟩
theorem uses.w35 (w:World):Calls Try.prog 51 #[.int .i64 35] w fun re w'=>re=.returned (B3 (false,false,false))∧Below w.heap.size w w':=by
 go_enter Try.func51,Try.ntmps51
 go_wp2
 refine bodyPost_ret (results_cell_row rfl _ _ w.heap.size _ _ _ _ rfl (heap_alloc_new w _) Try.underlying119 rfl rfl) rfl ?_
 exact ⟨rfl,by go_grown⟩
theorem uses.w36 (w:World):Calls Try.prog 51 #[.int .i64 36] w fun re w'=>re=.returned (B3 (false,false,false))∧Below w.heap.size w w':=by
 go_enter Try.func51,Try.ntmps51
 go_wp2
 refine bodyPost_ret (results_cell_row rfl _ _ w.heap.size _ _ _ _ rfl (heap_alloc_new w _) Try.underlying119 rfl rfl) rfl ?_
 exact ⟨rfl,by go_grown⟩
theorem uses.w19 (w:World):Calls Try.prog 51 #[.int .i64 19] w fun re w'=>re=.returned (B3 (false,true,false))∧Below w.heap.size w w':=by
 go_enter Try.func51,Try.ntmps51
 go_wp2
 refine bodyPost_ret (results_cell_row rfl _ _ w.heap.size _ _ _ _ rfl (heap_alloc_new w _) Try.underlying119 rfl rfl) rfl ?_
 exact ⟨rfl,by go_grown⟩
theorem uses.w21 (w:World):Calls Try.prog 51 #[.int .i64 21] w fun re w'=>re=.returned (B3 (false,true,false))∧Below w.heap.size w w':=by
 go_enter Try.func51,Try.ntmps51
 go_wp2
 refine bodyPost_ret (results_cell_row rfl _ _ w.heap.size _ _ _ _ rfl (heap_alloc_new w _) Try.underlying119 rfl rfl) rfl ?_
 exact ⟨rfl,by go_grown⟩
theorem uses.w22 (w:World):Calls Try.prog 51 #[.int .i64 22] w fun re w'=>re=.returned (B3 (false,true,false))∧Below w.heap.size w w':=by
 go_enter Try.func51,Try.ntmps51
 go_wp2
 refine bodyPost_ret (results_cell_row rfl _ _ w.heap.size _ _ _ _ rfl (heap_alloc_new w _) Try.underlying119 rfl rfl) rfl ?_
 exact ⟨rfl,by go_grown⟩
theorem uses.w23 (w:World):Calls Try.prog 51 #[.int .i64 23] w fun re w'=>re=.returned (B3 (false,true,false))∧Below w.heap.size w w':=by
 go_enter Try.func51,Try.ntmps51
 go_wp2
 refine bodyPost_ret (results_cell_row rfl _ _ w.heap.size _ _ _ _ rfl (heap_alloc_new w _) Try.underlying119 rfl rfl) rfl ?_
 exact ⟨rfl,by go_grown⟩
theorem uses.w12 (w:World):Calls Try.prog 51 #[.int .i64 12] w fun re w'=>re=.returned (B3 (true,true,false))∧Below w.heap.size w w':=by
 go_enter Try.func51,Try.ntmps51
 go_wp2
 refine bodyPost_ret (results_cell_row rfl _ _ w.heap.size _ _ _ _ rfl (heap_alloc_new w _) Try.underlying119 rfl rfl) rfl ?_
 exact ⟨rfl,by go_grown⟩
theorem uses.w17 (w:World):Calls Try.prog 51 #[.int .i64 17] w fun re w'=>re=.returned (B3 (true,true,false))∧Below w.heap.size w w':=by
 go_enter Try.func51,Try.ntmps51
 go_wp2
 refine bodyPost_ret (results_cell_row rfl _ _ w.heap.size _ _ _ _ rfl (heap_alloc_new w _) Try.underlying119 rfl rfl) rfl ?_
 exact ⟨rfl,by go_grown⟩
theorem uses.w25 (w:World):Calls Try.prog 51 #[.int .i64 25] w fun re w'=>re=.returned (B3 (true,false,true))∧Below w.heap.size w w':=by
 go_enter Try.func51,Try.ntmps51
 go_wp2
 refine bodyPost_ret (results_cell_row rfl _ _ w.heap.size _ _ _ _ rfl (heap_alloc_new w _) Try.underlying119 rfl rfl) rfl ?_
 exact ⟨rfl,by go_grown⟩
theorem uses.w18 (w:World):Calls Try.prog 51 #[.int .i64 18] w fun re w'=>re=.returned (B3 (false,true,true))∧Below w.heap.size w w':=by
 go_enter Try.func51,Try.ntmps51
 go_wp2
 refine bodyPost_ret (results_cell_row rfl _ _ w.heap.size _ _ _ _ rfl (heap_alloc_new w _) Try.underlying119 rfl rfl) rfl ?_
 exact ⟨rfl,by go_grown⟩
theorem uses.w20 (w:World):Calls Try.prog 51 #[.int .i64 20] w fun re w'=>re=.returned (B3 (false,true,true))∧Below w.heap.size w w':=by
 go_enter Try.func51,Try.ntmps51
 go_wp2
 refine bodyPost_ret (results_cell_row rfl _ _ w.heap.size _ _ _ _ rfl (heap_alloc_new w _) Try.underlying119 rfl rfl) rfl ?_
 exact ⟨rfl,by go_grown⟩
theorem uses.w16 (w:World):Calls Try.prog 51 #[.int .i64 16] w fun re w'=>re=.returned (B3 (true,true,true))∧Below w.heap.size w w':=by
 go_enter Try.func51,Try.ntmps51
 go_wp2
 refine bodyPost_ret (results_cell_row rfl _ _ w.heap.size _ _ _ _ rfl (heap_alloc_new w _) Try.underlying119 rfl rfl) rfl ?_
 exact ⟨rfl,by go_grown⟩
theorem uses.wx (op:Int) (h8:op≠8) (h9:op≠9) (h10:op≠10) (h11:op≠11) (h15:op≠15) (h27:op≠27) (h28:op≠28) (h29:op≠29) (h30:op≠30) (h35:op≠35) (h36:op≠36) (h19:op≠19) (h21:op≠21) (h22:op≠22) (h23:op≠23) (h12:op≠12) (h17:op≠17) (h25:op≠25) (h18:op≠18) (h20:op≠20) (h16:op≠16) (w:World):Calls Try.prog 51 #[.int .i64 op] w fun re w'=>re=.returned (B3 (true,false,false))∧Below w.heap.size w w':=by
 go_enter Try.func51,Try.ntmps51
 go_wp2
 refine bodyPost_ret (results_cell_row rfl _ _ w.heap.size _ _ _ _ rfl (heap_alloc_new w _) Try.underlying119 rfl rfl) rfl ?_
 exact ⟨rfl,by go_grown⟩
theorem uses.walk (op:Int) (w:World):Calls Try.prog 51 #[.int .i64 op] w fun re w'=>re=.returned (B3 (bZ6 op))∧Below w.heap.size w w':=by
 by_cases h8:op=8
 · subst h8;exact uses.w8 w
 by_cases h9:op=9
 · subst h9;exact uses.w9 w
 by_cases h10:op=10
 · subst h10;exact uses.w10 w
 by_cases h11:op=11
 · subst h11;exact uses.w11 w
 by_cases h15:op=15
 · subst h15;exact uses.w15 w
 by_cases h27:op=27
 · subst h27;exact uses.w27 w
 by_cases h28:op=28
 · subst h28;exact uses.w28 w
 by_cases h29:op=29
 · subst h29;exact uses.w29 w
 by_cases h30:op=30
 · subst h30;exact uses.w30 w
 by_cases h35:op=35
 · subst h35;exact uses.w35 w
 by_cases h36:op=36
 · subst h36;exact uses.w36 w
 by_cases h19:op=19
 · subst h19;exact uses.w19 w
 by_cases h21:op=21
 · subst h21;exact uses.w21 w
 by_cases h22:op=22
 · subst h22;exact uses.w22 w
 by_cases h23:op=23
 · subst h23;exact uses.w23 w
 by_cases h12:op=12
 · subst h12;exact uses.w12 w
 by_cases h17:op=17
 · subst h17;exact uses.w17 w
 by_cases h25:op=25
 · subst h25;exact uses.w25 w
 by_cases h18:op=18
 · subst h18;exact uses.w18 w
 by_cases h20:op=20
 · subst h20;exact uses.w20 w
 by_cases h16:op=16
 · subst h16;exact uses.w16 w
 have e:bZ6 op=(true,false,false):=by unfold bZ6;rw [if_neg (by omega),if_neg (by omega),if_neg (by omega),if_neg (by omega),if_neg (by omega),if_neg (by omega)]
 rw [e]
 exact uses.wx op h8 h9 h10 h11 h15 h27 h28 h29 h30 h35 h36 h19 h21 h22 h23 h12 h17 h25 h18 h20 h16 w
section
variable (x y z:Int) (w:World)
theorem inf3a:(Try.prog.info? 3).map (fun i=>i.size)=some 1:=by kernel_rfl
theorem inf3:∃ i,Try.prog.info? 3=some i∧i.size=1:=Option.map_eq_some_iff.1 inf3a
theorem ix77_0:(Instr.index 121 (.agg #[.int .i64 x,.int .i64 y,.int .i64 z]) (.int .i64 0)).run Try.prog w=.ok (.int .i64 x) w:=by
  obtain ⟨i,h1,h2⟩:=inf3
  simp [Instr.index,run_underlying Try.underlying121,asIntOf,part,sizeOf,typeInfo,h1,h2,isAgg,run_underlying Try.underlying3,go_sem]
theorem ix77_1:(Instr.index 121 (.agg #[.int .i64 x,.int .i64 y,.int .i64 z]) (.int .i64 1)).run Try.prog w=.ok (.int .i64 y) w:=by
  obtain ⟨i,h1,h2⟩:=inf3
  simp [Instr.index,run_underlying Try.underlying121,asIntOf,part,sizeOf,typeInfo,h1,h2,isAgg,run_underlying Try.underlying3,go_sem]
theorem ix77_2:(Instr.index 121 (.agg #[.int .i64 x,.int .i64 y,.int .i64 z]) (.int .i64 2)).run Try.prog w=.ok (.int .i64 z) w:=by
  obtain ⟨i,h1,h2⟩:=inf3
  simp [Instr.index,run_underlying Try.underlying121,asIntOf,part,sizeOf,typeInfo,h1,h2,isAgg,run_underlying Try.underlying3,go_sem]
end
attribute [local go_sem] ix77_0 ix77_1 ix77_2
end Go.Proofs.Ytbnplhmmbnmagaa.All
