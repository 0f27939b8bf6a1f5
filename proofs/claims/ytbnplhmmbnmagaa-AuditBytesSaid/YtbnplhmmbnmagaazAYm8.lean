/- A part of the proof of AuditBytes: walks written by a program of this session. -/
import Derived.Test.YtbnplhmmbnmagaazAYm2
import Derived.Test.YtbnplhmmbnmagaazAYm3
set_option maxHeartbeats 4000000
set_option maxRecDepth 100000
set_option linter.unusedVariables false
set_option linter.unusedSimpArgs false
namespace Go.Proofs.Ytbnplhmmbnmagaa.All
open Go.RowKit Go.Proofs.YtbnplhmmbnmagaaW.PrintWords Go.Proofs.YtbnplhmmbnmagaaW.PrintLast Go.Proofs.YtbnplhmmbnmagaaW.PrintMore
attribute [local go_sem] bZn bZl bZR bZQ aZ6 aZ5 bZm bZk
attribute [local go_sem] Go.Proofs.YtbnplhmmbnmagaaX.binOp_leq Go.Proofs.YtbnplhmmbnmagaaX.binOp_geq Go.Proofs.YtbnplhmmbnmagaaX.binOp_gtr
def B3 (u:Bool × Bool × Bool):Value:=.agg #[.bool u.1,.bool u.2.1,.bool u.2.2]
def bZD (op:Int):Bool × Bool × Bool :=
  if op=8∨op=9∨op=10∨op=11∨op=15∨op=27∨op=28∨op=29∨op=30∨op=35∨op=36 then (false,false,false) else if op=19∨op=21∨op=22∨op=23 then (false,true,false) else if op=12∨op=17 then (true,true,false) else if op=25 then (true,false,true) else if op=18∨op=20 then (false,true,true) else if op=16 then (true,true,true) else (true,false,false)
theorem uses.w8 (w:World):Calls Try.prog 51 #[.int .i64 8] w fun re w'=>re=.returned (B3 (false,false,false))∧Below w.heap.size w w':=by
 go_enter Try.func51,Try.ntmps51
 go_wp2
 refine bodyPost_ret (results_cell_row rfl _ _ w.heap.size _ _ _ _ rfl (heap_alloc_new w _) Try.underlying119 rfl rfl) rfl ?_
 exact ⟨rfl,by go_grown⟩
theorem uses.w9 (w:World):Calls Try.prog 51 #[.int .i64 9] w fun re w'=>re=.returned (B3 (false,false,false))∧Below w.heap.size w w':=by
 go_enter Try.func51,Try.ntmps51
 go_wp2
 refine bodyPost_ret (results_cell_row rfl _ _ w.heap.size _ _ _ _ rfl (heap_alloc_new w _) Try.underlying119 rfl rfl) rfl ?_
 exact ⟨rfl,by go_grown⟩
theorem uses.w10 (w:World):Calls Try.prog 51 #[.int .i64 10] w fun re w'=>re=.returned (B3 (false,false,false))∧Below w.heap.size w w':=by
 go_enter Try.func51,Try.ntmps51
 go_wp2
 refine bodyPost_ret (results_cell_row rfl _ _ w.heap.size _ _ _ _ rfl (heap_alloc_new w _) Try.underlying119 rfl rfl) rfl ?_
 exact ⟨rfl,by go_grown⟩
theorem uses.w11 (w:World):Calls Try.prog 51 #[.int .i64 11] w fun re w'=>re=.returned (B3 (false,false,false))∧Below w.heap.size w w':=by
 go_enter Try.func51,Try.ntmps51
 go_wp2
 refine bodyPost_ret (results_cell_row rfl _ _ w.heap.size _ _ _ _ rfl (heap_alloc_new w _) Try.underlying119 rfl rfl) rfl ?_
 exact ⟨rfl,by go_grown⟩
theorem uses.w15 (w:World):Calls Try.prog 51 #[.int .i64 15] w fun re w'=>re=.returned (B3 (false,false,false))∧Below w.heap.size w w':=by
 go_enter Try.func51,Try.ntmps51
 go_wp2
 refine bodyPost_ret (results_cell_row rfl _ _ w.heap.size _ _ _ _ rfl (heap_alloc_new w _) Try.underlying119 rfl rfl) rfl ?_
 exact ⟨rfl,by go_grown⟩
theorem uses.w27 (w:World):Calls Try.prog 51 #[.int .i64 27] w fun re w'=>re=.returned (B3 (false,false,false))∧Below w.heap.size w w':=by
 go_enter Try.func51,Try.ntmps51
 go_wp2
 refine bodyPost_ret (results_cell_row rfl _ _ w.heap.size _ _ _ _ rfl (heap_alloc_new w _) Try.underlying119 rfl rfl) rfl ?_
 exact ⟨rfl,by go_grown⟩
theorem uses.w28 (w:World):Calls Try.prog 51 #[.int .i64 28] w fun re w'=>re=.returned (B3 (false,false,false))∧Below w.heap.size w w':=by
 go_enter Try.func51,Try.ntmps51
 go_wp2
 refine bodyPost_ret (results_cell_row rfl _ _ w.heap.size _ _ _ _ rfl (heap_alloc_new w _) Try.underlying119 rfl rfl) rfl ?_
 exact ⟨rfl,by go_grown⟩
theorem uses.w29 (w:World):Calls Try.prog 51 #[.int .i64 29] w fun re w'=>re=.returned (B3 (false,false,false))∧Below w.heap.size w w':=by
 go_enter Try.func51,Try.ntmps51
 go_wp2
 refine bodyPost_ret (results_cell_row rfl _ _ w.heap.size _ _ _ _ rfl (heap_alloc_new w _) Try.underlying119 rfl rfl) rfl ?_
 exact ⟨rfl,by go_grown⟩
theorem uses.w30 (w:World):Calls Try.prog 51 #[.int .i64 30] w fun re w'=>re=.returned (B3 (false,false,false))∧Below w.heap.size w w':=by
 go_enter Try.func51,Try.ntmps51
 go_wp2
 refine bodyPost_ret (results_cell_row rfl _ _ w.heap.size _ _ _ _ rfl (heap_alloc_new w _) Try.underlying119 rfl rfl) rfl ?_
 exact ⟨rfl,by go_grown⟩
theorem uses.w35 (w:World):Calls Try.prog 51 #[.int .i64 35] w fun re w'=>re=.returned (B3 (false,false,false))∧Below w.heap.size w w':=by
 go_enter Try.func51,Try.ntmps51
 go_wp2
 refine bodyPost_ret (results_cell_row rfl _ _ w.heap.size _ _ _ _ rfl (heap_alloc_new w _) Try.underlying119 rfl rfl) rfl ?_
 exact ⟨rfl,by go_grown⟩
theorem uses.w36 (w:World):Calls Try.prog 51 #[.int .i64 36] w fun re w'=>re=.returned (B3 (false,false,false))∧Below w.heap.size w w':=by
 go_enter Try.func51,Try.ntmps51
 go_wp2
 refine bodyPost_ret (results_cell_row rfl _ _ w.heap.size _ _ _ _ rfl (heap_alloc_new w _) Try.underlying119 rfl rfl) rfl ?_
 exact ⟨rfl,by go_grown⟩
theorem uses.w19 (w:World):Calls Try.prog 51 #[.int .i64 19] w fun re w'=>re=.returned (B3 (false,true,false))∧Below w.heap.size w w':=by
 go_enter Try.func51,Try.ntmps51
 go_wp2
 refine bodyPost_ret (results_cell_row rfl _ _ w.heap.size _ _ _ _ rfl (heap_alloc_new w _) Try.underlying119 rfl rfl) rfl ?_
 exact ⟨rfl,by go_grown⟩
theorem uses.w21 (w:World):Calls Try.prog 51 #[.int .i64 21] w fun re w'=>re=.returned (B3 (false,true,false))∧Below w.heap.size w w':=by
 go_enter Try.func51,Try.ntmps51
 go_wp2
 refine bodyPost_ret (results_cell_row rfl _ _ w.heap.size _ _ _ _ rfl (heap_alloc_new w _) Try.underlying119 rfl rfl) rfl ?_
 exact ⟨rfl,by go_grown⟩
theorem uses.w22 (w:World):Calls Try.prog 51 #[.int .i64 22] w fun re w'=>re=.returned (B3 (false,true,false))∧Below w.heap.size w w':=by
 go_enter Try.func51,Try.ntmps51
 go_wp2
 refine bodyPost_ret (results_cell_row rfl _ _ w.heap.size _ _ _ _ rfl (heap_alloc_new w _) Try.underlying119 rfl rfl) rfl ?_
 exact ⟨rfl,by go_grown⟩
theorem uses.w23 (w:World):Calls Try.prog 51 #[.int .i64 23] w fun re w'=>re=.returned (B3 (false,true,false))∧Below w.heap.size w w':=by
 go_enter Try.func51,Try.ntmps51
 go_wp2
 refine bodyPost_ret (results_cell_row rfl _ _ w.heap.size _ _ _ _ rfl (heap_alloc_new w _) Try.underlying119 rfl rfl) rfl ?_
 exact ⟨rfl,by go_grown⟩
theorem uses.w12 (w:World):Calls Try.prog 51 #[.int .i64 12] w fun re w'=>re=.returned (B3 (true,true,false))∧Below w.heap.size w w':=by
 go_enter Try.func51,Try.ntmps51
 go_wp2
 refine bodyPost_ret (results_cell_row rfl _ _ w.heap.size _ _ _ _ rfl (heap_alloc_new w _) Try.underlying119 rfl rfl) rfl ?_
 exact ⟨rfl,by go_grown⟩
theorem uses.w17 (w:World):Calls Try.prog 51 #[.int .i64 17] w fun re w'=>re=.returned (B3 (true,true,false))∧Below w.heap.size w w':=by
 go_enter Try.func51,Try.ntmps51
 go_wp2
 refine bodyPost_ret (results_cell_row rfl _ _ w.heap.size _ _ _ _ rfl (heap_alloc_new w _) Try.underlying119 rfl rfl) rfl ?_
 exact ⟨rfl,by go_grown⟩
theorem uses.w25 (w:World):Calls Try.prog 51 #[.int .i64 25] w fun re w'=>re=.returned (B3 (true,false,true))∧Below w.heap.size w w':=by
 go_enter Try.func51,Try.ntmps51
 go_wp2
 refine bodyPost_ret (results_cell_row rfl _ _ w.heap.size _ _ _ _ rfl (heap_alloc_new w _) Try.underlying119 rfl rfl) rfl ?_
 exact ⟨rfl,by go_grown⟩
theorem uses.w18 (w:World):Calls Try.prog 51 #[.int .i64 18] w fun re w'=>re=.returned (B3 (false,true,true))∧Below w.heap.size w w':=by
 go_enter Try.func51,Try.ntmps51
 go_wp2
 refine bodyPost_ret (results_cell_row rfl _ _ w.heap.size _ _ _ _ rfl (heap_alloc_new w _) Try.underlying119 rfl rfl) rfl ?_
 exact ⟨rfl,by go_grown⟩
theorem uses.w20 (w:World):Calls Try.prog 51 #[.int .i64 20] w fun re w'=>re=.returned (B3 (false,true,true))∧Below w.heap.size w w':=by
 go_enter Try.func51,Try.ntmps51
 go_wp2
 refine bodyPost_ret (results_cell_row rfl _ _ w.heap.size _ _ _ _ rfl (heap_alloc_new w _) Try.underlying119 rfl rfl) rfl ?_
 exact ⟨rfl,by go_grown⟩
theorem uses.w16 (w:World):Calls Try.prog 51 #[.int .i64 16] w fun re w'=>re=.returned (B3 (true,true,true))∧Below w.heap.size w w':=by
 go_enter Try.func51,Try.ntmps51
 go_wp2
 refine bodyPost_ret (results_cell_row rfl _ _ w.heap.size _ _ _ _ rfl (heap_alloc_new w _) Try.underlying119 rfl rfl) rfl ?_
 exact ⟨rfl,by go_grown⟩
theorem uses.wx (op:Int) (h8:op≠8) (h9:op≠9) (h10:op≠10) (h11:op≠11) (h15:op≠15) (h27:op≠27) (h28:op≠28) (h29:op≠29) (h30:op≠30) (h35:op≠35) (h36:op≠36) (h19:op≠19) (h21:op≠21) (h22:op≠22) (h23:op≠23) (h12:op≠12) (h17:op≠17) (h25:op≠25) (h18:op≠18) (h20:op≠20) (h16:op≠16) (w:World):Calls Try.prog 51 #[.int .i64 op] w fun re w'=>re=.returned (B3 (true,false,false))∧Below w.heap.size w w':=by
 go_enter Try.func51,Try.ntmps51
 go_wp2
 refine bodyPost_ret (results_cell_row rfl _ _ w.heap.size _ _ _ _ rfl (heap_alloc_new w _) Try.underlying119 rfl rfl) rfl ?_
 exact ⟨rfl,by go_grown⟩
theorem uses.walk (op:Int) (w:World):Calls Try.prog 51 #[.int .i64 op] w fun re w'=>re=.returned (B3 (bZD op))∧Below w.heap.size w w':=by
 by_cases h8:op=8
 · subst h8;exact uses.w8 w
 by_cases h9:op=9
 · subst h9;exact uses.w9 w
 by_cases h10:op=10
 · subst h10;exact uses.w10 w
 by_cases h11:op=11
 · subst h11;exact uses.w11 w
 by_cases h15:op=15
 · subst h15;exact uses.w15 w
 by_cases h27:op=27
 · subst h27;exact uses.w27 w
 by_cases h28:op=28
 · subst h28;exact uses.w28 w
 by_cases h29:op=29
 · subst h29;exact uses.w29 w
 by_cases h30:op=30
 · subst h30;exact uses.w30 w
 by_cases h35:op=35
 · subst h35;exact uses.w35 w
 by_cases h36:op=36
 · subst h36;exact uses.w36 w
 by_cases h19:op=19
 · subst h19;exact uses.w19 w
 by_cases h21:op=21
 · subst h21;exact uses.w21 w
 by_cases h22:op=22
 · subst h22;exact uses.w22 w
 by_cases h23:op=23
 · subst h23;exact uses.w23 w
 by_cases h12:op=12
 · subst h12;exact uses.w12 w
 by_cases h17:op=17
 · subst h17;exact uses.w17 w
 by_cases h25:op=25
 · subst h25;exact uses.w25 w
 by_cases h18:op=18
 · subst h18;exact uses.w18 w
 by_cases h20:op=20
 · subst h20;exact uses.w20 w
 by_cases h16:op=16
 · subst h16;exact uses.w16 w
 have e:bZD op=(true,false,false):=by unfold bZD;rw [if_neg (by omega),if_neg (by omega),if_neg (by omega),if_neg (by omega),if_neg (by omega),if_neg (by omega)]
 rw [e]
 exact uses.wx op h8 h9 h10 h11 h15 h27 h28 h29 h30 h35 h36 h19 h21 h22 h23 h12 h17 h25 h18 h20 h16 w
section
variable (x y z:Int) (w:World)
theorem inf3a:(Try.prog.info? 3).map (fun i=>i.size)=some 1:=by kernel_rfl
theorem inf3:∃ i,Try.prog.info? 3=some i∧i.size=1:=Option.map_eq_some_iff.1 inf3a
theorem ix77_0:(Instr.index 121 (.agg #[.int .i64 x,.int .i64 y,.int .i64 z]) (.int .i64 0)).run Try.prog w=.ok (.int .i64 x) w:=by
  obtain ⟨i,h1,h2⟩:=inf3
  simp [Instr.index,run_underlying Try.underlying121,asIntOf,part,sizeOf,typeInfo,h1,h2,isAgg,run_underlying Try.underlying3,go_sem]
theorem ix77_1:(Instr.index 121 (.agg #[.int .i64 x,.int .i64 y,.int .i64 z]) (.int .i64 1)).run Try.prog w=.ok (.int .i64 y) w:=by
  obtain ⟨i,h1,h2⟩:=inf3
  simp [Instr.index,run_underlying Try.underlying121,asIntOf,part,sizeOf,typeInfo,h1,h2,isAgg,run_underlying Try.underlying3,go_sem]
theorem ix77_2:(Instr.index 121 (.agg #[.int .i64 x,.int .i64 y,.int .i64 z]) (.int .i64 2)).run Try.prog w=.ok (.int .i64 z) w:=by
  obtain ⟨i,h1,h2⟩:=inf3
  simp [Instr.index,run_underlying Try.underlying121,asIntOf,part,sizeOf,typeInfo,h1,h2,isAgg,run_underlying Try.underlying3,go_sem]
end
attribute [local go_sem] ix77_0 ix77_1 ix77_2
end Go.Proofs.Ytbnplhmmbnmagaa.All
namespace Go.Proofs.Ytbnplhmmbnmagaa.All
open Go.RowKit Go.Proofs.YtbnplhmmbnmagaaW.PrintWords Go.Proofs.YtbnplhmmbnmagaaW.PrintLast Go.Proofs.YtbnplhmmbnmagaaW.PrintMore
attribute [local go_sem] bZn bZl bZR bZQ aZ6 aZ5 bZm bZk
attribute [local go_sem] Go.Proofs.YtbnplhmmbnmagaaX.binOp_leq Go.Proofs.YtbnplhmmbnmagaaX.binOp_geq Go.Proofs.YtbnplhmmbnmagaaX.binOp_gtr
mutual
def berthref21_Effect.j0:Nat→Int→Int→Bool→Option (List Int × Int)
  | 0,_,_,_=>none
  | k+1,x1,x6,x7=>if x7=true then (some (([]:List Int),wrap64 (1+x1))) else (if x6=3 then (berthref21_Effect.j1 k x1 x6 (x6 == 3)) else (if x6=7 then (berthref21_Effect.j1 k x1 x6 (x6 == 7)) else (berthref21_Effect.j1 k x1 x6 (x6 == 8))))
def berthref21_Effect.j1:Nat→Int→Int→Bool→Option (List Int × Int)
  | 0,_,_,_=>none
  | k+1,x1,x6,x12=>if x12=true then (some (([]:List Int),3)) else (if x6=4 then (berthref21_Effect.j2 k x1 x6 (x6 == 4)) else (berthref21_Effect.j2 k x1 x6 (x6 == 9)))
def berthref21_Effect.j2:Nat→Int→Int→Bool→Option (List Int × Int)
  | 0,_,_,_=>none
  | k+1,x1,x6,x16=>if x16=true then (some (([]:List Int),5)) else (if x6=5 then (some (([]:List Int),4)) else (if x6=6 then (some (([]:List Int),6)) else (if x6=10 then (some ((([3]:List Int)),5)) else (if x6=11 then (some ((([3]:List Int)),4)) else (if x6=12 then (berthref21_Effect.j3 k x1 x6 (x6 == 12)) else (if x6=13 then (berthref21_Effect.j3 k x1 x6 (x6 == 13)) else (berthref21_Effect.j3 k x1 x6 (x6 == 14))))))))
def berthref21_Effect.j3:Nat→Int→Int→Bool→Option (List Int × Int)
  | 0,_,_,_=>none
  | k+1,x1,x6,x29=>if x29=true then (some ((([5]:List Int)),wrap64 (1+x1))) else (if x6=15 then (some ((([5]:List Int)),1)) else (if x6=16 then (some ((([4]:List Int)),wrap64 (1+x1))) else (if x6=17 then (some ((([6]:List Int)),wrap64 (1+x1))) else (if x6=18 then (some ((([4]:List Int)),1)) else (if x6=19 then (some ((([6]:List Int)),1)) else (if x6=20 then (some ((([2,4]:List Int)),1)) else (if x6=21 then (some ((([2,6]:List Int)),1)) else (if x6=22 then (some ((([2]:List Int)),1)) else (if x6=23 then (some (([]:List Int),1)) else (if x6=24 then (some ((([3,5]:List Int)),wrap64 (1+x1))) else (if x6=25 then (some ((([4,4]:List Int)),wrap64 (1+x1))) else (if x6=26 then (some ((([4,6]:List Int)),wrap64 (1+x1))) else (if x6=36 then (some ((([1]:List Int)),0)) else (some (([]:List Int),0)))))))))))))))
end
def berthref21_Effect.f (k:Nat) (a0:Int) (a1:Int):Option (List Int × Int):=if a0=1 then (berthref21_Effect.j0 k a1 a0 (a0 == 1)) else (berthref21_Effect.j0 k a1 a0 (a0 == 2))
def berthref21_bitmap.f (a0:Int):Option (Bool):=if a0=1 then (some true) else (some (a0 == 2))
theorem berthref21_bitmap.calls (a0:Int) (r:Bool) (w:World) (h:berthref21_bitmap.f a0=some r) :
 Calls Try.prog 108 #[.int .i64 a0] w fun e w'=>e=.returned (.bool r)∧Drawn0 w w':=by
 have H:(if a0=1 then (some true) else (some (a0 == 2)))=some r:=h
 clear h
 by_cases c2:a0=1
 ·
  rw [if_pos c2] at H
  have c2b0:(a0 == 1)=true:=beq_iff_eq.mpr c2
  have c2b1:(a0 != 1)=false:=bne_eq_false_iff_eq.mpr c2
  clear c2
  obtain rfl:=Option.some.inj H
  go_enter Try.func108,Try.ntmps108
  go_wp2
  go_ret
  exact ⟨by rfl,by repeat (exact Drawn0.refl _)⟩
 ·
  rw [if_neg c2] at H
  have c2b0:(a0 == 1)=false:=beq_eq_false_iff_ne.mpr c2
  have c2b1:(a0 != 1)=true:=bne_iff_ne.mpr c2
  obtain rfl:=Option.some.inj H
  go_enter Try.func108,Try.ntmps108
  go_wp2
  go_ret
  exact ⟨by rfl,by repeat (exact Drawn0.refl _)⟩
end Go.Proofs.Ytbnplhmmbnmagaa.All
namespace Go.Proofs.Ytbnplhmmbnmagaa.All
open Go.RowKit Go.Proofs.YtbnplhmmbnmagaaW.PrintWords Go.Proofs.YtbnplhmmbnmagaaW.PrintLast Go.Proofs.YtbnplhmmbnmagaaW.PrintMore
attribute [local go_sem] bZn bZl bZR bZQ aZ6 aZ5 bZm bZk
attribute [local go_sem] Go.Proofs.YtbnplhmmbnmagaaX.binOp_leq Go.Proofs.YtbnplhmmbnmagaaX.binOp_geq Go.Proofs.YtbnplhmmbnmagaaX.binOp_gtr
mutual
def berthref21_Operands.j0:Nat→Int→Bool→Option (Int × Int × Int)
  | 0,_,_=>none
  | k+1,x5,x6=>if x6=true then (some (1,0,0)) else (if x5=3 then (berthref21_Operands.j1 k x5 (x5 == 3)) else (berthref21_Operands.j1 k x5 (x5 == 7)))
def berthref21_Operands.j1:Nat→Int→Bool→Option (Int × Int × Int)
  | 0,_,_=>none
  | k+1,x5,x13=>if x13=true then (some (2,0,0)) else (if x5=4 then (some (3,0,0)) else (if x5=5 then (some (4,0,0)) else (if x5=6 then (some (5,0,0)) else (if x5=12 then (berthref21_Operands.j2 k x5 (x5 == 12)) else (berthref21_Operands.j2 k x5 (x5 == 17))))))
def berthref21_Operands.j2:Nat→Int→Bool→Option (Int × Int × Int)
  | 0,_,_=>none
  | k+1,x5,x22=>if x22=true then (some (1,2,0)) else (if x5=16 then (some (1,2,8)) else (if x5=18 then (berthref21_Operands.j3 k x5 (x5 == 18)) else (berthref21_Operands.j3 k x5 (x5 == 20))))
def berthref21_Operands.j3:Nat→Int→Bool→Option (Int × Int × Int)
  | 0,_,_=>none
  | k+1,x5,x27=>if x27=true then (some (0,2,8)) else (if x5=19 then (berthref21_Operands.j4 k x5 (x5 == 19)) else (if x5=21 then (berthref21_Operands.j4 k x5 (x5 == 21)) else (if x5=22 then (berthref21_Operands.j4 k x5 (x5 == 22)) else (berthref21_Operands.j4 k x5 (x5 == 23)))))
def berthref21_Operands.j4:Nat→Int→Bool→Option (Int × Int × Int)
  | 0,_,_=>none
  | k+1,x5,x30=>if x30=true then (some (0,2,0)) else (if x5=25 then (some (1,0,8)) else (if x5=31 then (berthref21_Operands.j5 k x5 (x5 == 31)) else (berthref21_Operands.j5 k x5 (x5 == 32))))
def berthref21_Operands.j5:Nat→Int→Bool→Option (Int × Int × Int)
  | 0,_,_=>none
  | k+1,x5,x37=>if x37=true then (some (6,0,0)) else (if x5=33 then (some (7,0,0)) else (if x5=34 then (some (7,0,0)) else (some (0,0,0))))
end
def berthref21_Operands.f (k:Nat) (a0:Int):Option (Int × Int × Int):=if a0=1 then (berthref21_Operands.j0 k a0 (a0 == 1)) else (if a0=2 then (berthref21_Operands.j0 k a0 (a0 == 2)) else (if a0=13 then (berthref21_Operands.j0 k a0 (a0 == 13)) else (if a0=14 then (berthref21_Operands.j0 k a0 (a0 == 14)) else (if a0=24 then (berthref21_Operands.j0 k a0 (a0 == 24)) else (berthref21_Operands.j0 k a0 (a0 == 26))))))
theorem berthref21_Operands.mono_l:∀ k,(∀ y0 y1,LeO (berthref21_Operands.j0 k y0 y1) (berthref21_Operands.j0 (k+1) y0 y1))∧(∀ y0 y1,LeO (berthref21_Operands.j1 k y0 y1) (berthref21_Operands.j1 (k+1) y0 y1))∧(∀ y0 y1,LeO (berthref21_Operands.j2 k y0 y1) (berthref21_Operands.j2 (k+1) y0 y1))∧(∀ y0 y1,LeO (berthref21_Operands.j3 k y0 y1) (berthref21_Operands.j3 (k+1) y0 y1))∧(∀ y0 y1,LeO (berthref21_Operands.j4 k y0 y1) (berthref21_Operands.j4 (k+1) y0 y1))∧(∀ y0 y1,LeO (berthref21_Operands.j5 k y0 y1) (berthref21_Operands.j5 (k+1) y0 y1))
  | 0=>⟨fun _ _ r h=>by simp [berthref21_Operands.j0] at h,fun _ _ r h=>by simp [berthref21_Operands.j1] at h,fun _ _ r h=>by simp [berthref21_Operands.j2] at h,fun _ _ r h=>by simp [berthref21_Operands.j3] at h,fun _ _ r h=>by simp [berthref21_Operands.j4] at h,fun _ _ r h=>by simp [berthref21_Operands.j5] at h⟩
  | k+1=>by
    obtain ⟨ih0,ih1,ih2,ih3,ih4,ih5⟩:=berthref21_Operands.mono_l k
    refine ⟨?_,?_,?_,?_,?_,?_⟩
    · intro y0 y1
      unfold berthref21_Operands.j0
      repeat' first|(with_reducible exact ih1 _ _)|(with_reducible exact LeO.refl _)|(with_reducible refine LeO.ite ?_ ?_)
    · intro y0 y1
      unfold berthref21_Operands.j1
      repeat' first|(with_reducible exact ih2 _ _)|(with_reducible exact LeO.refl _)|(with_reducible refine LeO.ite ?_ ?_)
    · intro y0 y1
      unfold berthref21_Operands.j2
      repeat' first|(with_reducible exact ih3 _ _)|(with_reducible exact LeO.refl _)|(with_reducible refine LeO.ite ?_ ?_)
    · intro y0 y1
      unfold berthref21_Operands.j3
      repeat' first|(with_reducible exact ih4 _ _)|(with_reducible exact LeO.refl _)|(with_reducible refine LeO.ite ?_ ?_)
    · intro y0 y1
      unfold berthref21_Operands.j4
      repeat' first|(with_reducible exact ih5 _ _)|(with_reducible exact LeO.refl _)|(with_reducible refine LeO.ite ?_ ?_)
    · intro y0 y1
      unfold berthref21_Operands.j5
      repeat' (with_reducible exact LeO.refl _)
theorem berthref21_Operands.mono:∀ a0 k,LeO (berthref21_Operands.f k a0) (berthref21_Operands.f (k+1) a0):=by
  intro a0 k
  obtain ⟨ih0,ih1,ih2,ih3,ih4,ih5⟩:=berthref21_Operands.mono_l k
  unfold berthref21_Operands.f
  repeat' first|(with_reducible exact ih0 _ _)|(with_reducible refine LeO.ite ?_ ?_)
end Go.Proofs.Ytbnplhmmbnmagaa.All
namespace Go.Proofs.Ytbnplhmmbnmagaa.All
open Go.RowKit Go.Proofs.YtbnplhmmbnmagaaW.PrintWords Go.Proofs.YtbnplhmmbnmagaaW.PrintLast Go.Proofs.YtbnplhmmbnmagaaW.PrintMore
attribute [local go_sem] bZn bZl bZR bZQ aZ6 aZ5 bZm bZk
attribute [local go_sem] Go.Proofs.YtbnplhmmbnmagaaX.binOp_leq Go.Proofs.YtbnplhmmbnmagaaX.binOp_geq Go.Proofs.YtbnplhmmbnmagaaX.binOp_gtr
def berthref21_sameInts.l0:Nat→List Int→List Int→Int→Option (Bool)
  | 0,_,_,_=>none
  | k+1,x0,x1,x5=>if x5<(x0.length:Int) then (if 0≤x5 then (if x5<(x1.length:Int) then (if (rd x0 x5)=(rd x1 x5) then (berthref21_sameInts.l0 k x0 x1 (wrap64 (x5+1))) else (some false)) else (none)) else (none)) else (some true)
def berthref21_sameInts.f (k:Nat) (l0:List Int) (l1:List Int):Option (Bool):=if (l0.length:Int)=(l1.length:Int) then (berthref21_sameInts.l0 k l0 l1 0) else (some false)
theorem berthref21_sameInts.calls (k:Nat) (A0:Option Addr) (c0:Nat) (l0:List Int) (A1:Option Addr) (c1:Nat) (l1:List Int) (r:Bool) (w:World) (hr0:Kd.C (Kd.int .i64) w A0 l0.length l0) (hc0:l0.length≤c0) (hr1:Kd.C (Kd.int .i64) w A1 l1.length l1) (hc1:l1.length≤c1) (h:berthref21_sameInts.f k l0 l1=some r) :
 Calls Try.prog 57 #[.slice A0 l0.length c0,.slice A1 l1.length c1] w fun e w'=>e=.returned (.bool r)∧Drawn0 w w':=by
 have HR0:=Aside0.mk hr0
 have HC0:=Aside0.mk hc0
 clear hr0 hc0
 have HR1:=Aside0.mk hr1
 have HC1:=Aside0.mk hc1
 clear hr1 hc1
 have H:(if (l0.length:Int)=(l1.length:Int) then (berthref21_sameInts.l0 k l0 l1 0) else (some false))=some r:=h
 clear h
 by_cases c3:(l0.length:Int)=(l1.length:Int)
 ·
  rw [if_pos c3] at H
  have c3b0:((l0.length:Int) == (l1.length:Int))=true:=beq_iff_eq.mpr c3
  have c3b1:((l0.length:Int) != (l1.length:Int))=false:=bne_eq_false_iff_eq.mpr c3
  have c3b2:(l0.length == l1.length)=true:=by (simp at c3 ⊢;omega)
  clear c3
  have H':=Aside0.mk H
  clear H
  go_enter Try.func57,Try.ntmps57
  go_wp2
  repeat (go_quiet (fail);try go_wp2)
  go_loopg [5] k (fun kq v5 w'=>∃ (x5_1:Int),v5=.int .i64 x5_1∧Aside0 (berthref21_sameInts.l0 kq l0 l1 x5_1=some r)∧Aside0 (kq≤k)∧Drawn0 w w')
  case atStart=>exact ⟨(0),(by rfl),H',⟨Nat.le_refl _⟩,by repeat (exact Drawn0.refl _)⟩
  case round =>
   clear H'
   try clear c3b0;try clear c3b1;try clear c3b2
   obtain ⟨x5_1,rfl,HA,HK1,⟨m1,rfl⟩⟩:=hrel
   cases gk with
   | zero=>exact absurd HA.out (by simp [berthref21_sameInts.l0])
   | succ k1 =>
    have H:=HA.out
    clear HA
    simp only [berthref21_sameInts.l0] at H
    by_cases c4:x5_1<(l0.length:Int)
    ·
     rw [if_pos c4] at H
     have c4b0:decide (x5_1<(l0.length:Int))=true:=decide_eq_true c4
     clear c4
     by_cases c5:0≤x5_1
     ·
      rw [if_pos c5] at H
      have c5b0:decide (0≤x5_1)=true:=decide_eq_true c5
      clear c5
      by_cases c6:x5_1<(l1.length:Int)
      ·
       rw [if_pos c6] at H
       have c6b0:decide (x5_1<(l1.length:Int))=true:=decide_eq_true c6
       clear c6
       by_cases c7:(rd l0 x5_1)=(rd l1 x5_1)
       ·
        rw [if_pos c7] at H
        have c7b0:((rd l0 x5_1) == (rd l1 x5_1))=true:=beq_iff_eq.mpr c7
        have c7b1:((rd l0 x5_1) != (rd l1 x5_1))=false:=bne_eq_false_iff_eq.mpr c7
        clear c7
        have H':=Aside0.mk H
        clear H
        have p175:0≤(x5_1:Int):=of_decide_eq_true (by (with_reducible assumption))
        have q175:x5_1<(l0.length:Int):=of_decide_eq_true (by (with_reducible assumption))
        obtain ⟨ad175,e175,hx175_0⟩:=Kd.at_int HR0.out x5_1 p175 q175
        cases e175
        replace p175:=eq_true p175
        replace q175:=eq_true q175
        have p176:0≤(x5_1:Int):=of_decide_eq_true (by (with_reducible assumption))
        have q176:x5_1<(l1.length:Int):=of_decide_eq_true (by (with_reducible assumption))
        obtain ⟨ad176,e176,hx176_0⟩:=Kd.at_int HR1.out x5_1 p176 q176
        cases e176
        replace p176:=eq_true p176
        replace q176:=eq_true q176
        go_wp2
        repeat (go_quiet (fail);try go_wp2)
        go_roundg k1
        case measure=>have:=HK1.out;omega
        case rel=>exact ⟨(wrap64 (x5_1+1)),(by rfl),H',⟨by have:=HK1.out;omega⟩,by repeat (first|exact Drawn0.refl _|apply Drawn0.step)⟩
       ·
        rw [if_neg c7] at H
        have c7b0:((rd l0 x5_1) == (rd l1 x5_1))=false:=beq_eq_false_iff_ne.mpr c7
        have c7b1:((rd l0 x5_1) != (rd l1 x5_1))=true:=bne_iff_ne.mpr c7
        obtain rfl:=Option.some.inj H
        have p175:0≤(x5_1:Int):=of_decide_eq_true (by (with_reducible assumption))
        have q175:x5_1<(l0.length:Int):=of_decide_eq_true (by (with_reducible assumption))
        obtain ⟨ad175,e175,hx175_0⟩:=Kd.at_int HR0.out x5_1 p175 q175
        cases e175
        replace p175:=eq_true p175
        replace q175:=eq_true q175
        have p176:0≤(x5_1:Int):=of_decide_eq_true (by (with_reducible assumption))
        have q176:x5_1<(l1.length:Int):=of_decide_eq_true (by (with_reducible assumption))
        obtain ⟨ad176,e176,hx176_0⟩:=Kd.at_int HR1.out x5_1 p176 q176
        cases e176
        replace p176:=eq_true p176
        replace q176:=eq_true q176
        go_wp2
        repeat (go_quiet (fail);try go_wp2)
        go_ret
        exact ⟨by rfl,by repeat (first|exact Drawn0.refl _|apply Drawn0.step)⟩
      ·
       rw [if_neg c6] at H
       exact absurd H (by simp)
     ·
      rw [if_neg c5] at H
      exact absurd H (by simp)
    ·
     rw [if_neg c4] at H
     have c4b0:decide (x5_1<(l0.length:Int))=false:=decide_eq_false c4
     clear c4
     obtain rfl:=Option.some.inj H
     go_wp2
     repeat (go_quiet (fail);try go_wp2)
     go_ret
     exact ⟨by rfl,by repeat (first|exact Drawn0.refl _|apply Drawn0.step)⟩
 ·
  rw [if_neg c3] at H
  have c3b0:((l0.length:Int) == (l1.length:Int))=false:=beq_eq_false_iff_ne.mpr c3
  have c3b1:((l0.length:Int) != (l1.length:Int))=true:=bne_iff_ne.mpr c3
  have c3b2:(l0.length == l1.length)=false:=by (simp at c3 ⊢;omega)
  obtain rfl:=Option.some.inj H
  go_enter Try.func57,Try.ntmps57
  go_wp2
  repeat (go_quiet (fail);try go_wp2)
  go_ret
  exact ⟨by rfl,by repeat (exact Drawn0.refl _)⟩
end Go.Proofs.Ytbnplhmmbnmagaa.All
