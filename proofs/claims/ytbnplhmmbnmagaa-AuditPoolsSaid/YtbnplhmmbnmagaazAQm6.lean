/- The program's type, as the rows open it. -/
import Derived.Test.YtbnplhmmbnmagaazAQm2
import Derived.Test.YtbnplhmmbnmagaazAQm4
import Derived.Test.YtbnplhmmbnmagaazAQm3
namespace Go.Proofs.Ytbnplhmmbnmagaa.All
open Go.RowKit Go.Proofs.YtbnplhmmbnmagaaW.PrintWords Go.Proofs.YtbnplhmmbnmagaaW.PrintLast Go.Proofs.YtbnplhmmbnmagaaW.PrintMore
attribute [local go_sem] max2_int min2_int max_two min_two max_three min_three max_four min_four
attribute [local go_sem] Go.Proofs.YtbnplhmmbnmagaaX.binOp_leq Go.Proofs.YtbnplhmmbnmagaaX.binOp_geq Go.Proofs.YtbnplhmmbnmagaaX.binOp_gtr
set_option linter.unusedVariables false
set_option linter.unusedSimpArgs false
def B3 (u : Bool × Bool × Bool) : Value := .agg #[.bool u.1, .bool u.2.1, .bool u.2.2]
def usesV (op : Int) : Bool × Bool × Bool :=
  if op = 8 ∨ op = 9 ∨ op = 10 ∨ op = 11 ∨ op = 15 ∨ op = 27 ∨ op = 28 ∨ op = 29 ∨ op = 30 ∨ op = 35 ∨ op = 36 then (false, false, false) else if op = 19 ∨ op = 21 ∨ op = 22 ∨ op = 23 then (false, true, false) else if op = 12 ∨ op = 17 then (true, true, false) else if op = 25 then (true, false, true) else if op = 18 ∨ op = 20 then (false, true, true) else if op = 16 then (true, true, true) else (true, false, false)
set_option maxHeartbeats 8000000 in
set_option maxRecDepth 100000 in
theorem uses.w8 (w : World) : Calls Try.prog 51 #[.int .i64 8] w fun re w' => re = .returned (B3 (false, false, false)) ∧ Below w.heap.size w w' := by
 go_enter Try.func51, Try.ntmps51
 go_wp2
 refine bodyPost_ret (results_cell_row rfl _ _ w.heap.size _ _ _ _ rfl (heap_alloc_new w _) Try.underlying119 rfl rfl) rfl ?_
 exact ⟨rfl, by go_grown⟩
set_option maxHeartbeats 8000000 in
set_option maxRecDepth 100000 in
theorem uses.w9 (w : World) : Calls Try.prog 51 #[.int .i64 9] w fun re w' => re = .returned (B3 (false, false, false)) ∧ Below w.heap.size w w' := by
 go_enter Try.func51, Try.ntmps51
 go_wp2
 refine bodyPost_ret (results_cell_row rfl _ _ w.heap.size _ _ _ _ rfl (heap_alloc_new w _) Try.underlying119 rfl rfl) rfl ?_
 exact ⟨rfl, by go_grown⟩
set_option maxHeartbeats 8000000 in
set_option maxRecDepth 100000 in
theorem uses.w10 (w : World) : Calls Try.prog 51 #[.int .i64 10] w fun re w' => re = .returned (B3 (false, false, false)) ∧ Below w.heap.size w w' := by
 go_enter Try.func51, Try.ntmps51
 go_wp2
 refine bodyPost_ret (results_cell_row rfl _ _ w.heap.size _ _ _ _ rfl (heap_alloc_new w _) Try.underlying119 rfl rfl) rfl ?_
 exact ⟨rfl, by go_grown⟩
set_option maxHeartbeats 8000000 in
set_option maxRecDepth 100000 in
theorem uses.w11 (w : World) : Calls Try.prog 51 #[.int .i64 11] w fun re w' => re = .returned (B3 (false, false, false)) ∧ Below w.heap.size w w' := by
 go_enter Try.func51, Try.ntmps51
 go_wp2
 refine bodyPost_ret (results_cell_row rfl _ _ w.heap.size _ _ _ _ rfl (heap_alloc_new w _) Try.underlying119 rfl rfl) rfl ?_
 exact ⟨rfl, by go_grown⟩
set_option maxHeartbeats 8000000 in
set_option maxRecDepth 100000 in
theorem uses.w15 (w : World) : Calls Try.prog 51 #[.int .i64 15] w fun re w' => re = .returned (B3 (false, false, false)) ∧ Below w.heap.size w w' := by
 go_enter Try.func51, Try.ntmps51
 go_wp2
 refine bodyPost_ret (results_cell_row rfl _ _ w.heap.size _ _ _ _ rfl (heap_alloc_new w _) Try.underlying119 rfl rfl) rfl ?_
 exact ⟨rfl, by go_grown⟩
set_option maxHeartbeats 8000000 in
set_option maxRecDepth 100000 in
theorem uses.w27 (w : World) : Calls Try.prog 51 #[.int .i64 27] w fun re w' => re = .returned (B3 (false, false, false)) ∧ Below w.heap.size w w' := by
 go_enter Try.func51, Try.ntmps51
 go_wp2
 refine bodyPost_ret (results_cell_row rfl _ _ w.heap.size _ _ _ _ rfl (heap_alloc_new w _) Try.underlying119 rfl rfl) rfl ?_
 exact ⟨rfl, by go_grown⟩
set_option maxHeartbeats 8000000 in
set_option maxRecDepth 100000 in
theorem uses.w28 (w : World) : Calls Try.prog 51 #[.int .i64 28] w fun re w' => re = .returned (B3 (false, false, false)) ∧ Below w.heap.size w w' := by
 go_enter Try.func51, Try.ntmps51
 go_wp2
 refine bodyPost_ret (results_cell_row rfl _ _ w.heap.size _ _ _ _ rfl (heap_alloc_new w _) Try.underlying119 rfl rfl) rfl ?_
 exact ⟨rfl, by go_grown⟩
set_option maxHeartbeats 8000000 in
set_option maxRecDepth 100000 in
theorem uses.w29 (w : World) : Calls Try.prog 51 #[.int .i64 29] w fun re w' => re = .returned (B3 (false, false, false)) ∧ Below w.heap.size w w' := by
 go_enter Try.func51, Try.ntmps51
 go_wp2
 refine bodyPost_ret (results_cell_row rfl _ _ w.heap.size _ _ _ _ rfl (heap_alloc_new w _) Try.underlying119 rfl rfl) rfl ?_
 exact ⟨rfl, by go_grown⟩
set_option maxHeartbeats 8000000 in
set_option maxRecDepth 100000 in
theorem uses.w30 (w : World) : Calls Try.prog 51 #[.int .i64 30] w fun re w' => re = .returned (B3 (false, false, false)) ∧ Below w.heap.size w w' := by
 go_enter Try.func51, Try.ntmps51
 go_wp2
 refine bodyPost_ret (results_cell_row rfl _ _ w.heap.size _ _ _ _ rfl (heap_alloc_new w _) Try.underlying119 rfl rfl) rfl ?_
 exact ⟨rfl, by go_grown⟩
set_option maxHeartbeats 8000000 in
set_option maxRecDepth 100000 in
theorem uses.w35 (w : World) : Calls Try.prog 51 #[.int .i64 35] w fun re w' => re = .returned (B3 (false, false, false)) ∧ Below w.heap.size w w' := by
 go_enter Try.func51, Try.ntmps51
 go_wp2
 refine bodyPost_ret (results_cell_row rfl _ _ w.heap.size _ _ _ _ rfl (heap_alloc_new w _) Try.underlying119 rfl rfl) rfl ?_
 exact ⟨rfl, by go_grown⟩
set_option maxHeartbeats 8000000 in
set_option maxRecDepth 100000 in
theorem uses.w36 (w : World) : Calls Try.prog 51 #[.int .i64 36] w fun re w' => re = .returned (B3 (false, false, false)) ∧ Below w.heap.size w w' := by
 go_enter Try.func51, Try.ntmps51
 go_wp2
 refine bodyPost_ret (results_cell_row rfl _ _ w.heap.size _ _ _ _ rfl (heap_alloc_new w _) Try.underlying119 rfl rfl) rfl ?_
 exact ⟨rfl, by go_grown⟩
set_option maxHeartbeats 8000000 in
set_option maxRecDepth 100000 in
theorem uses.w19 (w : World) : Calls Try.prog 51 #[.int .i64 19] w fun re w' => re = .returned (B3 (false, true, false)) ∧ Below w.heap.size w w' := by
 go_enter Try.func51, Try.ntmps51
 go_wp2
 refine bodyPost_ret (results_cell_row rfl _ _ w.heap.size _ _ _ _ rfl (heap_alloc_new w _) Try.underlying119 rfl rfl) rfl ?_
 exact ⟨rfl, by go_grown⟩
set_option maxHeartbeats 8000000 in
set_option maxRecDepth 100000 in
theorem uses.w21 (w : World) : Calls Try.prog 51 #[.int .i64 21] w fun re w' => re = .returned (B3 (false, true, false)) ∧ Below w.heap.size w w' := by
 go_enter Try.func51, Try.ntmps51
 go_wp2
 refine bodyPost_ret (results_cell_row rfl _ _ w.heap.size _ _ _ _ rfl (heap_alloc_new w _) Try.underlying119 rfl rfl) rfl ?_
 exact ⟨rfl, by go_grown⟩
set_option maxHeartbeats 8000000 in
set_option maxRecDepth 100000 in
theorem uses.w22 (w : World) : Calls Try.prog 51 #[.int .i64 22] w fun re w' => re = .returned (B3 (false, true, false)) ∧ Below w.heap.size w w' := by
 go_enter Try.func51, Try.ntmps51
 go_wp2
 refine bodyPost_ret (results_cell_row rfl _ _ w.heap.size _ _ _ _ rfl (heap_alloc_new w _) Try.underlying119 rfl rfl) rfl ?_
 exact ⟨rfl, by go_grown⟩
set_option maxHeartbeats 8000000 in
set_option maxRecDepth 100000 in
theorem uses.w23 (w : World) : Calls Try.prog 51 #[.int .i64 23] w fun re w' => re = .returned (B3 (false, true, false)) ∧ Below w.heap.size w w' := by
 go_enter Try.func51, Try.ntmps51
 go_wp2
 refine bodyPost_ret (results_cell_row rfl _ _ w.heap.size _ _ _ _ rfl (heap_alloc_new w _) Try.underlying119 rfl rfl) rfl ?_
 exact ⟨rfl, by go_grown⟩
set_option maxHeartbeats 8000000 in
set_option maxRecDepth 100000 in
theorem uses.w12 (w : World) : Calls Try.prog 51 #[.int .i64 12] w fun re w' => re = .returned (B3 (true, true, false)) ∧ Below w.heap.size w w' := by
 go_enter Try.func51, Try.ntmps51
 go_wp2
 refine bodyPost_ret (results_cell_row rfl _ _ w.heap.size _ _ _ _ rfl (heap_alloc_new w _) Try.underlying119 rfl rfl) rfl ?_
 exact ⟨rfl, by go_grown⟩
set_option maxHeartbeats 8000000 in
set_option maxRecDepth 100000 in
theorem uses.w17 (w : World) : Calls Try.prog 51 #[.int .i64 17] w fun re w' => re = .returned (B3 (true, true, false)) ∧ Below w.heap.size w w' := by
 go_enter Try.func51, Try.ntmps51
 go_wp2
 refine bodyPost_ret (results_cell_row rfl _ _ w.heap.size _ _ _ _ rfl (heap_alloc_new w _) Try.underlying119 rfl rfl) rfl ?_
 exact ⟨rfl, by go_grown⟩
set_option maxHeartbeats 8000000 in
set_option maxRecDepth 100000 in
theorem uses.w25 (w : World) : Calls Try.prog 51 #[.int .i64 25] w fun re w' => re = .returned (B3 (true, false, true)) ∧ Below w.heap.size w w' := by
 go_enter Try.func51, Try.ntmps51
 go_wp2
 refine bodyPost_ret (results_cell_row rfl _ _ w.heap.size _ _ _ _ rfl (heap_alloc_new w _) Try.underlying119 rfl rfl) rfl ?_
 exact ⟨rfl, by go_grown⟩
set_option maxHeartbeats 8000000 in
set_option maxRecDepth 100000 in
theorem uses.w18 (w : World) : Calls Try.prog 51 #[.int .i64 18] w fun re w' => re = .returned (B3 (false, true, true)) ∧ Below w.heap.size w w' := by
 go_enter Try.func51, Try.ntmps51
 go_wp2
 refine bodyPost_ret (results_cell_row rfl _ _ w.heap.size _ _ _ _ rfl (heap_alloc_new w _) Try.underlying119 rfl rfl) rfl ?_
 exact ⟨rfl, by go_grown⟩
set_option maxHeartbeats 8000000 in
set_option maxRecDepth 100000 in
theorem uses.w20 (w : World) : Calls Try.prog 51 #[.int .i64 20] w fun re w' => re = .returned (B3 (false, true, true)) ∧ Below w.heap.size w w' := by
 go_enter Try.func51, Try.ntmps51
 go_wp2
 refine bodyPost_ret (results_cell_row rfl _ _ w.heap.size _ _ _ _ rfl (heap_alloc_new w _) Try.underlying119 rfl rfl) rfl ?_
 exact ⟨rfl, by go_grown⟩
set_option maxHeartbeats 8000000 in
set_option maxRecDepth 100000 in
theorem uses.w16 (w : World) : Calls Try.prog 51 #[.int .i64 16] w fun re w' => re = .returned (B3 (true, true, true)) ∧ Below w.heap.size w w' := by
 go_enter Try.func51, Try.ntmps51
 go_wp2
 refine bodyPost_ret (results_cell_row rfl _ _ w.heap.size _ _ _ _ rfl (heap_alloc_new w _) Try.underlying119 rfl rfl) rfl ?_
 exact ⟨rfl, by go_grown⟩
set_option maxHeartbeats 8000000 in
set_option maxRecDepth 100000 in
theorem uses.wx (op : Int) (h8 : op ≠ 8) (h9 : op ≠ 9) (h10 : op ≠ 10) (h11 : op ≠ 11) (h15 : op ≠ 15) (h27 : op ≠ 27) (h28 : op ≠ 28) (h29 : op ≠ 29) (h30 : op ≠ 30) (h35 : op ≠ 35) (h36 : op ≠ 36) (h19 : op ≠ 19) (h21 : op ≠ 21) (h22 : op ≠ 22) (h23 : op ≠ 23) (h12 : op ≠ 12) (h17 : op ≠ 17) (h25 : op ≠ 25) (h18 : op ≠ 18) (h20 : op ≠ 20) (h16 : op ≠ 16) (w : World) : Calls Try.prog 51 #[.int .i64 op] w fun re w' => re = .returned (B3 (true, false, false)) ∧ Below w.heap.size w w' := by
 go_enter Try.func51, Try.ntmps51
 go_wp2
 refine bodyPost_ret (results_cell_row rfl _ _ w.heap.size _ _ _ _ rfl (heap_alloc_new w _) Try.underlying119 rfl rfl) rfl ?_
 exact ⟨rfl, by go_grown⟩
theorem uses.walk (op : Int) (w : World) : Calls Try.prog 51 #[.int .i64 op] w fun re w' => re = .returned (B3 (usesV op)) ∧ Below w.heap.size w w' := by
 by_cases h8 : op = 8
 ·
  subst h8; exact uses.w8 w
 by_cases h9 : op = 9
 ·
  subst h9; exact uses.w9 w
 by_cases h10 : op = 10
 ·
  subst h10; exact uses.w10 w
 by_cases h11 : op = 11
 ·
  subst h11; exact uses.w11 w
 by_cases h15 : op = 15
 ·
  subst h15; exact uses.w15 w
 by_cases h27 : op = 27
 ·
  subst h27; exact uses.w27 w
 by_cases h28 : op = 28
 ·
  subst h28; exact uses.w28 w
 by_cases h29 : op = 29
 ·
  subst h29; exact uses.w29 w
 by_cases h30 : op = 30
 ·
  subst h30; exact uses.w30 w
 by_cases h35 : op = 35
 ·
  subst h35; exact uses.w35 w
 by_cases h36 : op = 36
 ·
  subst h36; exact uses.w36 w
 by_cases h19 : op = 19
 ·
  subst h19; exact uses.w19 w
 by_cases h21 : op = 21
 ·
  subst h21; exact uses.w21 w
 by_cases h22 : op = 22
 ·
  subst h22; exact uses.w22 w
 by_cases h23 : op = 23
 ·
  subst h23; exact uses.w23 w
 by_cases h12 : op = 12
 ·
  subst h12; exact uses.w12 w
 by_cases h17 : op = 17
 ·
  subst h17; exact uses.w17 w
 by_cases h25 : op = 25
 ·
  subst h25; exact uses.w25 w
 by_cases h18 : op = 18
 ·
  subst h18; exact uses.w18 w
 by_cases h20 : op = 20
 ·
  subst h20; exact uses.w20 w
 by_cases h16 : op = 16
 ·
  subst h16; exact uses.w16 w
 have e : usesV op = (true, false, false) := by unfold usesV; rw [if_neg (by omega), if_neg (by omega), if_neg (by omega), if_neg (by omega), if_neg (by omega), if_neg (by omega)]
 rw [e]
 exact uses.wx op h8 h9 h10 h11 h15 h27 h28 h29 h30 h35 h36 h19 h21 h22 h23 h12 h17 h25 h18 h20 h16 w
section
variable (x y z : Int) (w : World)
theorem inf3a : (Try.prog.info? 3).map (fun i => i.size) = some 1 := by kernel_rfl
theorem inf3 : ∃ i, Try.prog.info? 3 = some i ∧ i.size = 1 := Option.map_eq_some_iff.1 inf3a
theorem ix77_0 : (Instr.index 121 (.agg #[.int .i64 x, .int .i64 y, .int .i64 z]) (.int .i64 0)).run Try.prog w = .ok (.int .i64 x) w := by
  obtain ⟨i, h1, h2⟩ := inf3
  simp [Instr.index, run_underlying Try.underlying121, asIntOf, part, sizeOf, typeInfo, h1, h2, isAgg, run_underlying Try.underlying3, go_sem]
theorem ix77_1 : (Instr.index 121 (.agg #[.int .i64 x, .int .i64 y, .int .i64 z]) (.int .i64 1)).run Try.prog w = .ok (.int .i64 y) w := by
  obtain ⟨i, h1, h2⟩ := inf3
  simp [Instr.index, run_underlying Try.underlying121, asIntOf, part, sizeOf, typeInfo, h1, h2, isAgg, run_underlying Try.underlying3, go_sem]
theorem ix77_2 : (Instr.index 121 (.agg #[.int .i64 x, .int .i64 y, .int .i64 z]) (.int .i64 2)).run Try.prog w = .ok (.int .i64 z) w := by
  obtain ⟨i, h1, h2⟩ := inf3
  simp [Instr.index, run_underlying Try.underlying121, asIntOf, part, sizeOf, typeInfo, h1, h2, isAgg, run_underlying Try.underlying3, go_sem]
end
attribute [local go_sem] ix77_0 ix77_1 ix77_2
end Go.Proofs.Ytbnplhmmbnmagaa.All
namespace Go.Proofs.Ytbnplhmmbnmagaa.All
open Go.RowKit Go.Proofs.YtbnplhmmbnmagaaW.PrintWords Go.Proofs.YtbnplhmmbnmagaaW.PrintLast Go.Proofs.YtbnplhmmbnmagaaW.PrintMore
structure S28 where
  f0 : (List ByteArray)
  f1 : (List Int)
  f2 : (List (List ByteArray))
  f3 : (List (List Int))
  f4 : (List S66)
  f5 : Int
  f6 : Int
def k28 : Kd S28 := Kd.iso (Kd.pair (Kd.slice 9 Kd.string) (Kd.pair (Kd.slice 3 (Kd.int .i64)) (Kd.pair (Kd.slice 22 (Kd.slice 9 Kd.string)) (Kd.pair (Kd.slice 23 (Kd.slice 3 (Kd.int .i64))) (Kd.pair (Kd.slice 66 k66) (Kd.pair (Kd.int .i64) (Kd.int .i64))))))) (fun x : S28 => (x.f0, x.f1, x.f2, x.f3, x.f4, x.f5, x.f6))
end Go.Proofs.Ytbnplhmmbnmagaa.All
