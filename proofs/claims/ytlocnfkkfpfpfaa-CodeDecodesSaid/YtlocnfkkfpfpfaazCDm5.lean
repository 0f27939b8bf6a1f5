/- A part of the proof of CodeDecodes: walks written by a program of this session. -/
import Derived.Test.YtlocnfkkfpfpfaazCDm1
import Derived.Test.YtlocnfkkfpfpfaazCDm4
namespace Go.Proofs.Ytlocnfkkfpfpfaa.Six
open Go.RowKit Go.Proofs.YtlocnfkkfpfpfaaW.PrintWords Go.Proofs.YtlocnfkkfpfpfaaW.PrintLast Go.Proofs.YtlocnfkkfpfpfaaW.PrintMore
attribute [local go_sem] max2_int min2_int max_two min_two max_three min_three max_four min_four
attribute [local go_sem] Go.Proofs.YtlocnfkkfpfpfaaX.binOp_leq Go.Proofs.YtlocnfkkfpfpfaaX.binOp_geq Go.Proofs.YtlocnfkkfpfpfaaX.binOp_gtr
set_option linter.unusedVariables false
set_option linter.unusedSimpArgs false
def B3 (u : Bool × Bool × Bool) : Value := .agg #[.bool u.1, .bool u.2.1, .bool u.2.2]
def usesV (op : Int) : Bool × Bool × Bool :=
  if op = 8 ∨ op = 9 ∨ op = 10 ∨ op = 11 ∨ op = 15 ∨ op = 27 ∨ op = 28 ∨ op = 29 ∨ op = 30 ∨ op = 35 ∨ op = 36 then (false, false, false) else if op = 19 ∨ op = 21 ∨ op = 22 ∨ op = 23 then (false, true, false) else if op = 12 ∨ op = 17 then (true, true, false) else if op = 25 then (true, false, true) else if op = 18 ∨ op = 20 then (false, true, true) else if op = 16 then (true, true, true) else (true, false, false)
set_option maxHeartbeats 8000000 in
set_option maxRecDepth 100000 in
theorem uses.w8 (w : World) : Calls Try.prog 35 #[.int .i64 8] w fun re w' => re = .returned (B3 (false, false, false)) ∧ Below w.heap.size w w' := by
 go_enter Try.func35, Try.ntmps35
 go_wp2
 refine bodyPost_ret (results_cell_row rfl _ _ w.heap.size _ _ _ _ rfl (heap_alloc_new w _) Try.underlying75 rfl rfl) rfl ?_
 exact ⟨rfl, by go_grown⟩
set_option maxHeartbeats 8000000 in
set_option maxRecDepth 100000 in
theorem uses.w9 (w : World) : Calls Try.prog 35 #[.int .i64 9] w fun re w' => re = .returned (B3 (false, false, false)) ∧ Below w.heap.size w w' := by
 go_enter Try.func35, Try.ntmps35
 go_wp2
 refine bodyPost_ret (results_cell_row rfl _ _ w.heap.size _ _ _ _ rfl (heap_alloc_new w _) Try.underlying75 rfl rfl) rfl ?_
 exact ⟨rfl, by go_grown⟩
set_option maxHeartbeats 8000000 in
set_option maxRecDepth 100000 in
theorem uses.w10 (w : World) : Calls Try.prog 35 #[.int .i64 10] w fun re w' => re = .returned (B3 (false, false, false)) ∧ Below w.heap.size w w' := by
 go_enter Try.func35, Try.ntmps35
 go_wp2
 refine bodyPost_ret (results_cell_row rfl _ _ w.heap.size _ _ _ _ rfl (heap_alloc_new w _) Try.underlying75 rfl rfl) rfl ?_
 exact ⟨rfl, by go_grown⟩
set_option maxHeartbeats 8000000 in
set_option maxRecDepth 100000 in
theorem uses.w11 (w : World) : Calls Try.prog 35 #[.int .i64 11] w fun re w' => re = .returned (B3 (false, false, false)) ∧ Below w.heap.size w w' := by
 go_enter Try.func35, Try.ntmps35
 go_wp2
 refine bodyPost_ret (results_cell_row rfl _ _ w.heap.size _ _ _ _ rfl (heap_alloc_new w _) Try.underlying75 rfl rfl) rfl ?_
 exact ⟨rfl, by go_grown⟩
set_option maxHeartbeats 8000000 in
set_option maxRecDepth 100000 in
theorem uses.w15 (w : World) : Calls Try.prog 35 #[.int .i64 15] w fun re w' => re = .returned (B3 (false, false, false)) ∧ Below w.heap.size w w' := by
 go_enter Try.func35, Try.ntmps35
 go_wp2
 refine bodyPost_ret (results_cell_row rfl _ _ w.heap.size _ _ _ _ rfl (heap_alloc_new w _) Try.underlying75 rfl rfl) rfl ?_
 exact ⟨rfl, by go_grown⟩
set_option maxHeartbeats 8000000 in
set_option maxRecDepth 100000 in
theorem uses.w27 (w : World) : Calls Try.prog 35 #[.int .i64 27] w fun re w' => re = .returned (B3 (false, false, false)) ∧ Below w.heap.size w w' := by
 go_enter Try.func35, Try.ntmps35
 go_wp2
 refine bodyPost_ret (results_cell_row rfl _ _ w.heap.size _ _ _ _ rfl (heap_alloc_new w _) Try.underlying75 rfl rfl) rfl ?_
 exact ⟨rfl, by go_grown⟩
set_option maxHeartbeats 8000000 in
set_option maxRecDepth 100000 in
theorem uses.w28 (w : World) : Calls Try.prog 35 #[.int .i64 28] w fun re w' => re = .returned (B3 (false, false, false)) ∧ Below w.heap.size w w' := by
 go_enter Try.func35, Try.ntmps35
 go_wp2
 refine bodyPost_ret (results_cell_row rfl _ _ w.heap.size _ _ _ _ rfl (heap_alloc_new w _) Try.underlying75 rfl rfl) rfl ?_
 exact ⟨rfl, by go_grown⟩
set_option maxHeartbeats 8000000 in
set_option maxRecDepth 100000 in
theorem uses.w29 (w : World) : Calls Try.prog 35 #[.int .i64 29] w fun re w' => re = .returned (B3 (false, false, false)) ∧ Below w.heap.size w w' := by
 go_enter Try.func35, Try.ntmps35
 go_wp2
 refine bodyPost_ret (results_cell_row rfl _ _ w.heap.size _ _ _ _ rfl (heap_alloc_new w _) Try.underlying75 rfl rfl) rfl ?_
 exact ⟨rfl, by go_grown⟩
set_option maxHeartbeats 8000000 in
set_option maxRecDepth 100000 in
theorem uses.w30 (w : World) : Calls Try.prog 35 #[.int .i64 30] w fun re w' => re = .returned (B3 (false, false, false)) ∧ Below w.heap.size w w' := by
 go_enter Try.func35, Try.ntmps35
 go_wp2
 refine bodyPost_ret (results_cell_row rfl _ _ w.heap.size _ _ _ _ rfl (heap_alloc_new w _) Try.underlying75 rfl rfl) rfl ?_
 exact ⟨rfl, by go_grown⟩
set_option maxHeartbeats 8000000 in
set_option maxRecDepth 100000 in
theorem uses.w35 (w : World) : Calls Try.prog 35 #[.int .i64 35] w fun re w' => re = .returned (B3 (false, false, false)) ∧ Below w.heap.size w w' := by
 go_enter Try.func35, Try.ntmps35
 go_wp2
 refine bodyPost_ret (results_cell_row rfl _ _ w.heap.size _ _ _ _ rfl (heap_alloc_new w _) Try.underlying75 rfl rfl) rfl ?_
 exact ⟨rfl, by go_grown⟩
set_option maxHeartbeats 8000000 in
set_option maxRecDepth 100000 in
theorem uses.w36 (w : World) : Calls Try.prog 35 #[.int .i64 36] w fun re w' => re = .returned (B3 (false, false, false)) ∧ Below w.heap.size w w' := by
 go_enter Try.func35, Try.ntmps35
 go_wp2
 refine bodyPost_ret (results_cell_row rfl _ _ w.heap.size _ _ _ _ rfl (heap_alloc_new w _) Try.underlying75 rfl rfl) rfl ?_
 exact ⟨rfl, by go_grown⟩
set_option maxHeartbeats 8000000 in
set_option maxRecDepth 100000 in
theorem uses.w19 (w : World) : Calls Try.prog 35 #[.int .i64 19] w fun re w' => re = .returned (B3 (false, true, false)) ∧ Below w.heap.size w w' := by
 go_enter Try.func35, Try.ntmps35
 go_wp2
 refine bodyPost_ret (results_cell_row rfl _ _ w.heap.size _ _ _ _ rfl (heap_alloc_new w _) Try.underlying75 rfl rfl) rfl ?_
 exact ⟨rfl, by go_grown⟩
set_option maxHeartbeats 8000000 in
set_option maxRecDepth 100000 in
theorem uses.w21 (w : World) : Calls Try.prog 35 #[.int .i64 21] w fun re w' => re = .returned (B3 (false, true, false)) ∧ Below w.heap.size w w' := by
 go_enter Try.func35, Try.ntmps35
 go_wp2
 refine bodyPost_ret (results_cell_row rfl _ _ w.heap.size _ _ _ _ rfl (heap_alloc_new w _) Try.underlying75 rfl rfl) rfl ?_
 exact ⟨rfl, by go_grown⟩
set_option maxHeartbeats 8000000 in
set_option maxRecDepth 100000 in
theorem uses.w22 (w : World) : Calls Try.prog 35 #[.int .i64 22] w fun re w' => re = .returned (B3 (false, true, false)) ∧ Below w.heap.size w w' := by
 go_enter Try.func35, Try.ntmps35
 go_wp2
 refine bodyPost_ret (results_cell_row rfl _ _ w.heap.size _ _ _ _ rfl (heap_alloc_new w _) Try.underlying75 rfl rfl) rfl ?_
 exact ⟨rfl, by go_grown⟩
set_option maxHeartbeats 8000000 in
set_option maxRecDepth 100000 in
theorem uses.w23 (w : World) : Calls Try.prog 35 #[.int .i64 23] w fun re w' => re = .returned (B3 (false, true, false)) ∧ Below w.heap.size w w' := by
 go_enter Try.func35, Try.ntmps35
 go_wp2
 refine bodyPost_ret (results_cell_row rfl _ _ w.heap.size _ _ _ _ rfl (heap_alloc_new w _) Try.underlying75 rfl rfl) rfl ?_
 exact ⟨rfl, by go_grown⟩
set_option maxHeartbeats 8000000 in
set_option maxRecDepth 100000 in
theorem uses.w12 (w : World) : Calls Try.prog 35 #[.int .i64 12] w fun re w' => re = .returned (B3 (true, true, false)) ∧ Below w.heap.size w w' := by
 go_enter Try.func35, Try.ntmps35
 go_wp2
 refine bodyPost_ret (results_cell_row rfl _ _ w.heap.size _ _ _ _ rfl (heap_alloc_new w _) Try.underlying75 rfl rfl) rfl ?_
 exact ⟨rfl, by go_grown⟩
set_option maxHeartbeats 8000000 in
set_option maxRecDepth 100000 in
theorem uses.w17 (w : World) : Calls Try.prog 35 #[.int .i64 17] w fun re w' => re = .returned (B3 (true, true, false)) ∧ Below w.heap.size w w' := by
 go_enter Try.func35, Try.ntmps35
 go_wp2
 refine bodyPost_ret (results_cell_row rfl _ _ w.heap.size _ _ _ _ rfl (heap_alloc_new w _) Try.underlying75 rfl rfl) rfl ?_
 exact ⟨rfl, by go_grown⟩
set_option maxHeartbeats 8000000 in
set_option maxRecDepth 100000 in
theorem uses.w25 (w : World) : Calls Try.prog 35 #[.int .i64 25] w fun re w' => re = .returned (B3 (true, false, true)) ∧ Below w.heap.size w w' := by
 go_enter Try.func35, Try.ntmps35
 go_wp2
 refine bodyPost_ret (results_cell_row rfl _ _ w.heap.size _ _ _ _ rfl (heap_alloc_new w _) Try.underlying75 rfl rfl) rfl ?_
 exact ⟨rfl, by go_grown⟩
set_option maxHeartbeats 8000000 in
set_option maxRecDepth 100000 in
theorem uses.w18 (w : World) : Calls Try.prog 35 #[.int .i64 18] w fun re w' => re = .returned (B3 (false, true, true)) ∧ Below w.heap.size w w' := by
 go_enter Try.func35, Try.ntmps35
 go_wp2
 refine bodyPost_ret (results_cell_row rfl _ _ w.heap.size _ _ _ _ rfl (heap_alloc_new w _) Try.underlying75 rfl rfl) rfl ?_
 exact ⟨rfl, by go_grown⟩
set_option maxHeartbeats 8000000 in
set_option maxRecDepth 100000 in
theorem uses.w20 (w : World) : Calls Try.prog 35 #[.int .i64 20] w fun re w' => re = .returned (B3 (false, true, true)) ∧ Below w.heap.size w w' := by
 go_enter Try.func35, Try.ntmps35
 go_wp2
 refine bodyPost_ret (results_cell_row rfl _ _ w.heap.size _ _ _ _ rfl (heap_alloc_new w _) Try.underlying75 rfl rfl) rfl ?_
 exact ⟨rfl, by go_grown⟩
set_option maxHeartbeats 8000000 in
set_option maxRecDepth 100000 in
theorem uses.w16 (w : World) : Calls Try.prog 35 #[.int .i64 16] w fun re w' => re = .returned (B3 (true, true, true)) ∧ Below w.heap.size w w' := by
 go_enter Try.func35, Try.ntmps35
 go_wp2
 refine bodyPost_ret (results_cell_row rfl _ _ w.heap.size _ _ _ _ rfl (heap_alloc_new w _) Try.underlying75 rfl rfl) rfl ?_
 exact ⟨rfl, by go_grown⟩
set_option maxHeartbeats 8000000 in
set_option maxRecDepth 100000 in
theorem uses.wx (op : Int) (h8 : op ≠ 8) (h9 : op ≠ 9) (h10 : op ≠ 10) (h11 : op ≠ 11) (h15 : op ≠ 15) (h27 : op ≠ 27) (h28 : op ≠ 28) (h29 : op ≠ 29) (h30 : op ≠ 30) (h35 : op ≠ 35) (h36 : op ≠ 36) (h19 : op ≠ 19) (h21 : op ≠ 21) (h22 : op ≠ 22) (h23 : op ≠ 23) (h12 : op ≠ 12) (h17 : op ≠ 17) (h25 : op ≠ 25) (h18 : op ≠ 18) (h20 : op ≠ 20) (h16 : op ≠ 16) (w : World) : Calls Try.prog 35 #[.int .i64 op] w fun re w' => re = .returned (B3 (true, false, false)) ∧ Below w.heap.size w w' := by
 go_enter Try.func35, Try.ntmps35
 go_wp2
 refine bodyPost_ret (results_cell_row rfl _ _ w.heap.size _ _ _ _ rfl (heap_alloc_new w _) Try.underlying75 rfl rfl) rfl ?_
 exact ⟨rfl, by go_grown⟩
theorem uses.walk (op : Int) (w : World) : Calls Try.prog 35 #[.int .i64 op] w fun re w' => re = .returned (B3 (usesV op)) ∧ Below w.heap.size w w' := by
 by_cases h8 : op = 8
 ·
  subst h8; exact uses.w8 w
 by_cases h9 : op = 9
 ·
  subst h9; exact uses.w9 w
 by_cases h10 : op = 10
 ·
  subst h10; exact uses.w10 w
 by_cases h11 : op = 11
 ·
  subst h11; exact uses.w11 w
 by_cases h15 : op = 15
 ·
  subst h15; exact uses.w15 w
 by_cases h27 : op = 27
 ·
  subst h27; exact uses.w27 w
 by_cases h28 : op = 28
 ·
  subst h28; exact uses.w28 w
 by_cases h29 : op = 29
 ·
  subst h29; exact uses.w29 w
 by_cases h30 : op = 30
 ·
  subst h30; exact uses.w30 w
 by_cases h35 : op = 35
 ·
  subst h35; exact uses.w35 w
 by_cases h36 : op = 36
 ·
  subst h36; exact uses.w36 w
 by_cases h19 : op = 19
 ·
  subst h19; exact uses.w19 w
 by_cases h21 : op = 21
 ·
  subst h21; exact uses.w21 w
 by_cases h22 : op = 22
 ·
  subst h22; exact uses.w22 w
 by_cases h23 : op = 23
 ·
  subst h23; exact uses.w23 w
 by_cases h12 : op = 12
 ·
  subst h12; exact uses.w12 w
 by_cases h17 : op = 17
 ·
  subst h17; exact uses.w17 w
 by_cases h25 : op = 25
 ·
  subst h25; exact uses.w25 w
 by_cases h18 : op = 18
 ·
  subst h18; exact uses.w18 w
 by_cases h20 : op = 20
 ·
  subst h20; exact uses.w20 w
 by_cases h16 : op = 16
 ·
  subst h16; exact uses.w16 w
 have e : usesV op = (true, false, false) := by unfold usesV; rw [if_neg (by omega), if_neg (by omega), if_neg (by omega), if_neg (by omega), if_neg (by omega), if_neg (by omega)]
 rw [e]
 exact uses.wx op h8 h9 h10 h11 h15 h27 h28 h29 h30 h35 h36 h19 h21 h22 h23 h12 h17 h25 h18 h20 h16 w
structure St (P0 : Nat → Prop) (w0 w : World) (g5 : Nat) (b1 b2 b3 : Bool) (v : Value) (l : List Int) (W : World) : Prop where
  row : Kd.R (Kd.int .u8) 5 W w0.heap.size (fun k => (P0 k ∨ w.heap.size ≤ k) ∧ k ≠ g5) v l
  below : Below w0.heap.size w0 W
  kept : Kept w W P0
  lt : g5 < W.heap.size
  cells : W.heap[g5]? = some (.cells #[.bool b1, .bool b2, .bool b3] 75 (0, 0))
theorem St.cell {P0 : Nat → Prop} {w0 w : World} {g5 : Nat} {b1 b2 b3 : Bool} {v : Value} {l : List Int} {W : World} (h : St P0 w0 w g5 b1 b2 b3 v l W) :
    W.cell? ⟨g5, 0, none⟩ = some (.bool b1) ∧ W.cell? ⟨g5, 1, none⟩ = some (.bool b2) ∧ W.cell? ⟨g5, 2, none⟩ = some (.bool b3) := by
  refine ⟨?_, ?_, ?_⟩ <;> simp [World.cell?, h.cells]
theorem St.put {P0 : Nat → Prop} {w0 w : World} {g5 : Nat} {b1 b2 b3 : Bool} {v : Value} {l : List Int} {W : World} (h : St P0 w0 w g5 b1 b2 b3 v l W) {k : Nat} {n : Int} {r : List Int}
 (hf : code_putCount.f k l n = some r) : Calls Try.prog 24 #[v, .int .u64 n] W fun e W' => ∃ v', e = .returned v' ∧ St P0 w0 w g5 b1 b2 b3 v' r W' := by
 refine (code_putCount.calls k (fun k_ => some k_ = v.ownBlock) v l n r w0 W h.below (Kd.R_tight rfl h.row) hf).mono ?_
 rintro e W' ⟨v', rfl, hr, hb, hk⟩
 refine ⟨v', rfl, ⟨Kd.R_mono hr (fun j hj => ?_), hb, h.kept.then_ hk (fun j hj => (h.row.1 j hj.symm).1), Nat.lt_of_lt_of_le h.lt hk.1, ?_⟩⟩
 ·
  rcases hj with hj | hj
  ·
   exact h.row.1 j hj.symm
  ·
   exact ⟨.inr (Nat.le_trans h.kept.1 hj), by have := h.lt; omega⟩
 ·
  rw [hk.2 g5 h.lt (fun e => (h.row.1 g5 e.symm).2 rfl)]
  exact h.cells
section
variable (x y z : Int) (w : World)
theorem inf3a : (Try.prog.info? 3).map (fun i => i.size) = some 1 := by kernel_rfl
theorem inf3 : ∃ i, Try.prog.info? 3 = some i ∧ i.size = 1 := Option.map_eq_some_iff.1 inf3a
theorem ix77_0 : (Instr.index 77 (.agg #[.int .i64 x, .int .i64 y, .int .i64 z]) (.int .i64 0)).run Try.prog w = .ok (.int .i64 x) w := by
  obtain ⟨i, h1, h2⟩ := inf3
  simp [Instr.index, run_underlying Try.underlying77, asIntOf, part, sizeOf, typeInfo, h1, h2, isAgg, run_underlying Try.underlying3, go_sem]
theorem ix77_1 : (Instr.index 77 (.agg #[.int .i64 x, .int .i64 y, .int .i64 z]) (.int .i64 1)).run Try.prog w = .ok (.int .i64 y) w := by
  obtain ⟨i, h1, h2⟩ := inf3
  simp [Instr.index, run_underlying Try.underlying77, asIntOf, part, sizeOf, typeInfo, h1, h2, isAgg, run_underlying Try.underlying3, go_sem]
theorem ix77_2 : (Instr.index 77 (.agg #[.int .i64 x, .int .i64 y, .int .i64 z]) (.int .i64 2)).run Try.prog w = .ok (.int .i64 z) w := by
  obtain ⟨i, h1, h2⟩ := inf3
  simp [Instr.index, run_underlying Try.underlying77, asIntOf, part, sizeOf, typeInfo, h1, h2, isAgg, run_underlying Try.underlying3, go_sem]
end
attribute [local go_sem] ix77_0 ix77_1 ix77_2
def stepV (k : Nat) (b : Bool) (l : List Int) (n : Int) : Option (List Int) := if b = true then code_putCount.f k l (IntKind.u64.wrap n) else some l
def code_Encode_3.f (k : Nat) (l0 : List Int) (a1_0 a1_1 a1_2 a1_3 : Int) : Option (List Int) :=
  if l0.length < 140737488355328 then (stepV k (usesV a1_0).1 (l0 ++ [a1_0 % 256]) a1_1).bind fun t1 => (stepV k (usesV a1_0).2.1 t1 a1_2).bind fun t2 => stepV k (usesV a1_0).2.2 t2 a1_3 else none
set_option maxHeartbeats 8000000 in
set_option maxRecDepth 100000 in
theorem enc3_head (k : Nat) (t1 t2 r : List Int) (P0 : Nat → Prop) (u : Value) (l0 : List Int) (a0 a1 a2 a3 : Int) (b1 b2 b3 : Bool) (hu : usesV a0 = (b1, b2, b3)) (w0 w : World) (hB : Below w0.heap.size w0 w) (ho0 : Kd.R (Kd.int .u8) 5 w w0.heap.size P0 u l0) (hl : l0.length < 140737488355328) (s1 : stepV k b1 (l0 ++ [a0 % 256]) a1 = some t1) (s2 : stepV k b2 t1 a2 = some t2) (s3 : stepV k b3 t2 a3 = some r) :
 Calls Try.prog 34 #[u, .agg #[.int .i64 a0, .int .i64 a1, .int .i64 a2, .int .i64 a3]] w fun e w' => ∃ v' : Value, e = .returned v' ∧ Kd.R (Kd.int .u8) 5 w' w0.heap.size (fun k_ => (P0 k_ ∨ w.heap.size ≤ k_)) v' r ∧ Below w0.heap.size w0 w' ∧ Kept w w' (fun k_ => P0 k_) := by
 obtain ⟨Ao, co, eo⟩ := Kd.R_slice ho0
 subst eo
 go_enter Try.func34, Try.ntmps34
 have hlt := Kd.R_lt ho0
 have uw : ∀ W, Calls Try.prog 35 #[.int .i64 a0] W fun re w' => re = .returned (.agg #[.bool b1, .bool b2, .bool b3]) ∧ Below W.heap.size W w' := fun W => by
  have := uses.walk a0 W
  rw [hu] at this
  exact this
 go_wp2_with (first | ((with_reducible refine gate_builtin (b := .append) (xs := #[.tmp 8, .tmp 12]) rfl ?_); at_builtin; refine Kd.R_append (Kd.int .u8) (w0 := w0) w0.heap.size rfl (.tmp 8) (.tmp 12) 34 5 (.int .u8 0) 1 rfl Try.underlying34 info5 rfl (by decide) (by omega) (.slice Ao l0.length co) l0 (a0 % 256) [.int .u8 (a0 % 256)] (fun k_ => P0 k_ ∨ w.heap.size ≤ k_) (fun _ => False) rfl (by rw [World.size_alloc]; rfl) ?aP (fun _ hk => hk.elim) ?aF ?aO ?aB ?aS ?aL ?_; (case aP => exact rfl); (case aB => exact below_alloc hB _); (case aF => exact (fun k_ hk => .inr (by simp only [World.size_alloc] at hk; omega))); (case aO => exact Kd.R_alloc (Kd.R_mono ho0 (fun _ h => .inl h)) _); (case aS => have := hB.size; simp only [World.size_alloc]; omega); (case aL => omega); intro v1 w2 hr hb hg hat; have hk2 : Kept w w2 P0 := Kept.of_grown hg ((Kept.refl w P0).alloc _) (fun k e => .inl (ho0.1 k e)); have q0 : w2.heap[w.heap.size]? = some (Obj.cells #[Value.int IntKind.i64 a0, Value.int IntKind.i64 a1, Value.int IntKind.i64 a2, Value.int IntKind.i64 a3] 74) := (hg.block w.heap.size (by simp only [World.size_alloc]; omega) (fun he => by have := hlt _ he.symm; omega)).trans (heap_alloc_new w _); have q1 : w2.cell? ⟨w.heap.size, 0, none⟩ = some (.int .i64 a0) := by simp [World.cell?, q0]))
 refine (uw w2).mono ?_
 rintro e w3 ⟨rfl, bel3⟩
 have lt2 : w.heap.size < w2.heap.size := by have := hg.size; simp only [World.size_alloc] at this; omega
 have q3 : w3.heap[w.heap.size]? = some (Obj.cells #[Value.int IntKind.i64 a0, Value.int IntKind.i64 a1, Value.int IntKind.i64 a2, Value.int IntKind.i64 a3] 74) := by rw [bel3.block _ lt2]; exact q0
 have lt3 : w.heap.size < w3.heap.size := Nat.lt_of_lt_of_le lt2 bel3.size
 have q4 : (w3.alloc (Obj.cells #[Value.bool b1, Value.bool b2, Value.bool b3] 75)).heap[w.heap.size]? = some (Obj.cells #[Value.int IntKind.i64 a0, Value.int IntKind.i64 a1, Value.int IntKind.i64 a2, Value.int IntKind.i64 a3] 74) := by rw [heap_alloc_old _ _ lt3]; exact q3
 have q5 : (w3.alloc (Obj.cells #[Value.bool b1, Value.bool b2, Value.bool b3] 75)).cell? ⟨w.heap.size, 1, none⟩ = some (.int .i64 a1) := by simp [World.cell?, q4]
 have q6 : (w3.alloc (Obj.cells #[Value.bool b1, Value.bool b2, Value.bool b3] 75)).cell? ⟨w.heap.size, 2, none⟩ = some (.int .i64 a2) := by simp [World.cell?, q4]
 have q7 : (w3.alloc (Obj.cells #[Value.bool b1, Value.bool b2, Value.bool b3] 75)).cell? ⟨w.heap.size, 3, none⟩ = some (.int .i64 a3) := by simp [World.cell?, q4]
 go_wp2_with (fail)
 have hS : St P0 w0 w w3.heap.size b1 b2 b3 v1 (l0 ++ [a0 % 256]) (w3.alloc (Obj.cells #[Value.bool b1, Value.bool b2, Value.bool b3] 75)) := by
  refine ⟨?_, ?_, ?_, ?_, heap_alloc_new w3 _⟩
  ·
   refine Kd.R_alloc (Kd.R_below ?_ bel3) _
   exact Kd.R_reok rfl hr (fun k e => ⟨hr.1 k e, by have := Kd.R_lt hr k e; have := bel3.size; omega⟩)
  ·
   exact below_alloc (hb.trans (bel3.mono hb.size)) _
  ·
   exact (hk2.below bel3).alloc _
  ·
   simp only [World.size_alloc]; omega
 have hg5 : ∃ g5, g5 = w3.heap.size := ⟨_, rfl⟩
 obtain ⟨g5, hg5⟩ := hg5
 rw [← hg5] at hS ⊢
 generalize w3.alloc (Obj.cells #[Value.bool b1, Value.bool b2, Value.bool b3] 75) = w4 at hS ⊢
 clear q7 q6 q5 q4 q3 q1 q0 lt3 lt2 bel3 hk2 hat hg hb hr uw hlt ho0 hB hg5
 refine wp_loop_rounds 4 ?_
 obtain ⟨e0, e1, e2⟩ := hS.cell
 cases b1
 ·
  change some _ = some _ at s1
  cases b2
  ·
   change some _ = some _ at s2
   cases b3
   ·
    change some _ = some _ at s3
    rw [rounds_succ]
    obtain rfl := Option.some.inj s1
    go_wp2_with (fail)
    rw [rounds_succ]
    obtain rfl := Option.some.inj s2
    go_wp2_with (fail)
    rw [rounds_succ]
    obtain rfl := Option.some.inj s3
    go_wp2_with (fail)
    rw [rounds_succ]
    go_wp2_with (fail)
    go_ret
    exact ⟨_, rfl, Kd.R_mono hS.row (fun _ h => h.1), hS.below, hS.kept⟩
   ·
    change code_putCount.f k _ _ = some _ at s3
    rw [rounds_succ]
    obtain rfl := Option.some.inj s1
    go_wp2_with (fail)
    rw [rounds_succ]
    obtain rfl := Option.some.inj s2
    go_wp2_with (fail)
    rw [rounds_succ]
    go_wp2_with (fail)
    refine (hS.put s3).mono ?_
    clear hS e0 e1 e2
    rintro e W2 ⟨u2, rfl, hS⟩
    obtain ⟨e0, e1, e2⟩ := hS.cell
    go_wp2_with (fail)
    rw [rounds_succ]
    go_wp2_with (fail)
    go_ret
    exact ⟨_, rfl, Kd.R_mono hS.row (fun _ h => h.1), hS.below, hS.kept⟩
  ·
   change code_putCount.f k _ _ = some _ at s2
   cases b3
   ·
    change some _ = some _ at s3
    rw [rounds_succ]
    obtain rfl := Option.some.inj s1
    go_wp2_with (fail)
    rw [rounds_succ]
    go_wp2_with (fail)
    refine (hS.put s2).mono ?_
    clear hS e0 e1 e2
    rintro e W1 ⟨u1, rfl, hS⟩
    obtain ⟨e0, e1, e2⟩ := hS.cell
    go_wp2_with (fail)
    rw [rounds_succ]
    obtain rfl := Option.some.inj s3
    go_wp2_with (fail)
    rw [rounds_succ]
    go_wp2_with (fail)
    go_ret
    exact ⟨_, rfl, Kd.R_mono hS.row (fun _ h => h.1), hS.below, hS.kept⟩
   ·
    change code_putCount.f k _ _ = some _ at s3
    rw [rounds_succ]
    obtain rfl := Option.some.inj s1
    go_wp2_with (fail)
    rw [rounds_succ]
    go_wp2_with (fail)
    refine (hS.put s2).mono ?_
    clear hS e0 e1 e2
    rintro e W1 ⟨u1, rfl, hS⟩
    obtain ⟨e0, e1, e2⟩ := hS.cell
    go_wp2_with (fail)
    rw [rounds_succ]
    go_wp2_with (fail)
    refine (hS.put s3).mono ?_
    clear hS e0 e1 e2
    rintro e W2 ⟨u2, rfl, hS⟩
    obtain ⟨e0, e1, e2⟩ := hS.cell
    go_wp2_with (fail)
    rw [rounds_succ]
    go_wp2_with (fail)
    go_ret
    exact ⟨_, rfl, Kd.R_mono hS.row (fun _ h => h.1), hS.below, hS.kept⟩
 ·
  change code_putCount.f k _ _ = some _ at s1
  cases b2
  ·
   change some _ = some _ at s2
   cases b3
   ·
    change some _ = some _ at s3
    rw [rounds_succ]
    go_wp2_with (fail)
    refine (hS.put s1).mono ?_
    clear hS e0 e1 e2
    rintro e W0 ⟨u0, rfl, hS⟩
    obtain ⟨e0, e1, e2⟩ := hS.cell
    go_wp2_with (fail)
    rw [rounds_succ]
    obtain rfl := Option.some.inj s2
    go_wp2_with (fail)
    rw [rounds_succ]
    obtain rfl := Option.some.inj s3
    go_wp2_with (fail)
    rw [rounds_succ]
    go_wp2_with (fail)
    go_ret
    exact ⟨_, rfl, Kd.R_mono hS.row (fun _ h => h.1), hS.below, hS.kept⟩
   ·
    change code_putCount.f k _ _ = some _ at s3
    rw [rounds_succ]
    go_wp2_with (fail)
    refine (hS.put s1).mono ?_
    clear hS e0 e1 e2
    rintro e W0 ⟨u0, rfl, hS⟩
    obtain ⟨e0, e1, e2⟩ := hS.cell
    go_wp2_with (fail)
    rw [rounds_succ]
    obtain rfl := Option.some.inj s2
    go_wp2_with (fail)
    rw [rounds_succ]
    go_wp2_with (fail)
    refine (hS.put s3).mono ?_
    clear hS e0 e1 e2
    rintro e W2 ⟨u2, rfl, hS⟩
    obtain ⟨e0, e1, e2⟩ := hS.cell
    go_wp2_with (fail)
    rw [rounds_succ]
    go_wp2_with (fail)
    go_ret
    exact ⟨_, rfl, Kd.R_mono hS.row (fun _ h => h.1), hS.below, hS.kept⟩
  ·
   change code_putCount.f k _ _ = some _ at s2
   cases b3
   ·
    change some _ = some _ at s3
    rw [rounds_succ]
    go_wp2_with (fail)
    refine (hS.put s1).mono ?_
    clear hS e0 e1 e2
    rintro e W0 ⟨u0, rfl, hS⟩
    obtain ⟨e0, e1, e2⟩ := hS.cell
    go_wp2_with (fail)
    rw [rounds_succ]
    go_wp2_with (fail)
    refine (hS.put s2).mono ?_
    clear hS e0 e1 e2
    rintro e W1 ⟨u1, rfl, hS⟩
    obtain ⟨e0, e1, e2⟩ := hS.cell
    go_wp2_with (fail)
    rw [rounds_succ]
    obtain rfl := Option.some.inj s3
    go_wp2_with (fail)
    rw [rounds_succ]
    go_wp2_with (fail)
    go_ret
    exact ⟨_, rfl, Kd.R_mono hS.row (fun _ h => h.1), hS.below, hS.kept⟩
   ·
    change code_putCount.f k _ _ = some _ at s3
    rw [rounds_succ]
    go_wp2_with (fail)
    refine (hS.put s1).mono ?_
    clear hS e0 e1 e2
    rintro e W0 ⟨u0, rfl, hS⟩
    obtain ⟨e0, e1, e2⟩ := hS.cell
    go_wp2_with (fail)
    rw [rounds_succ]
    go_wp2_with (fail)
    refine (hS.put s2).mono ?_
    clear hS e0 e1 e2
    rintro e W1 ⟨u1, rfl, hS⟩
    obtain ⟨e0, e1, e2⟩ := hS.cell
    go_wp2_with (fail)
    rw [rounds_succ]
    go_wp2_with (fail)
    refine (hS.put s3).mono ?_
    clear hS e0 e1 e2
    rintro e W2 ⟨u2, rfl, hS⟩
    obtain ⟨e0, e1, e2⟩ := hS.cell
    go_wp2_with (fail)
    rw [rounds_succ]
    go_wp2_with (fail)
    go_ret
    exact ⟨_, rfl, Kd.R_mono hS.row (fun _ h => h.1), hS.below, hS.kept⟩
theorem code_Encode_3.calls (k : Nat) (P0_ : Nat → Prop) (u9000_ : Value) (l0 : List Int) (a1_0 a1_1 a1_2 a1_3 : Int) (r : List Int) (w0 w : World) (hB : Below w0.heap.size w0 w) (ho0 : Kd.R (Kd.int .u8) 5 w w0.heap.size P0_ u9000_ l0) (h : code_Encode_3.f k l0 a1_0 a1_1 a1_2 a1_3 = some r) :
 Calls Try.prog 34 #[u9000_, .agg #[.int .i64 a1_0, .int .i64 a1_1, .int .i64 a1_2, .int .i64 a1_3]] w fun e w' => ∃ v0_ : Value, e = .returned (v0_) ∧ Kd.R (Kd.int .u8) 5 w' w0.heap.size (fun k_ => (P0_ k_ ∨ w.heap.size ≤ k_)) v0_ r ∧ Below w0.heap.size w0 w' ∧ Kept w w' (fun k_ => P0_ k_) := by
 unfold code_Encode_3.f at h
 split at h
 ·
  rename_i hl
  obtain ⟨t1, s1, h⟩ := Option.bind_eq_some_iff.mp h
  obtain ⟨t2, s2, s3⟩ := Option.bind_eq_some_iff.mp h
  exact enc3_head k t1 t2 r P0_ u9000_ l0 a1_0 a1_1 a1_2 a1_3 _ _ _ rfl w0 w hB ho0 hl s1 s2 s3
 ·
  exact absurd h (by simp)
theorem code_Encode_3.mono : ∀ a0 a1 a2 a3 a4 k, LeO (code_Encode_3.f k a0 a1 a2 a3 a4) (code_Encode_3.f (k + 1) a0 a1 a2 a3 a4) := by
  intro a0 a1 a2 a3 a4 k
  unfold code_Encode_3.f stepV
  repeat' first
    | exact code_putCount.mono _ _ _
    | exact LeO.refl _
    | exact LeO.none _
    | refine LeO.ite ?_ ?_
    | refine LeO.bind ?_ (fun _ => ?_)
def api_Instr.l0 : Nat → List Int → List (S74) → Int → Int → Option (List Int)
  | 0, _, _, _, _ => none
  | k + 1, x0, x14, x15, x16 => if x16 < x15 then (if 0 ≤ x16 then (if x16 < (x14.length : Int) then ((code_Encode_3.f k x0 ((rd_T74 x14 x16).f0) ((rd_T74 x14 x16).f1) ((rd_T74 x14 x16).f2) ((rd_T74 x14 x16).f3)).bind fun t188 => (api_Instr.l0 k t188 x14 x15 (wrap64 (x16 + 1)))) else (none)) else (none)) else (some x0)
def api_Instr.f (k : Nat) (l0 : List Int) (l1 : List (S74)) : Option (List Int) := (code_putCount.f k l0 (IntKind.u64.wrap ((l1.length : Int)))).bind fun t183 => (api_Instr.l0 k t183 l1 (l1.length : Int) 0)
theorem api_Instr.mono_l : ∀ k, (∀ y0 y1 y2 y3, LeO (api_Instr.l0 k y0 y1 y2 y3) (api_Instr.l0 (k + 1) y0 y1 y2 y3))
  | 0 => fun _ _ _ _ r h => by simp [api_Instr.l0] at h
  | k + 1 => by
    have ih0 := api_Instr.mono_l k
    · intro y0 y1 y2 y3
      unfold api_Instr.l0
      repeat' first
      | (with_reducible exact ih0 _ _ _ _)
      | (with_reducible exact code_Encode_3.mono _ _ _ _ _ _)
      | (with_reducible exact code_putCount.mono _ _ _)
      | (with_reducible exact LeO.refl _)
      | (with_reducible exact LeO.none _)
      | (with_reducible refine LeO.ite ?_ ?_)
      | (with_reducible refine LeO.bind ?_ (fun _ => ?_))
      | exact ih0 _ _ _ _
      | exact code_Encode_3.mono _ _ _ _ _ _
      | exact code_putCount.mono _ _ _
      | exact LeO.none _
      | refine LeO.ite ?_ ?_
      | refine LeO.bind ?_ (fun _ => ?_)
theorem api_Instr.mono : ∀ a0 a1 k, LeO (api_Instr.f k a0 a1) (api_Instr.f (k + 1) a0 a1) := by
  intro a0 a1 k
  have ih0 := api_Instr.mono_l k
  unfold api_Instr.f
  repeat' first
      | (with_reducible exact ih0 _ _ _ _)
      | (with_reducible exact code_Encode_3.mono _ _ _ _ _ _)
      | (with_reducible exact code_putCount.mono _ _ _)
      | (with_reducible exact LeO.refl _)
      | (with_reducible exact LeO.none _)
      | (with_reducible refine LeO.ite ?_ ?_)
      | (with_reducible refine LeO.bind ?_ (fun _ => ?_))
      | exact ih0 _ _ _ _
      | exact code_Encode_3.mono _ _ _ _ _ _
      | exact code_putCount.mono _ _ _
      | exact LeO.none _
      | refine LeO.ite ?_ ?_
      | refine LeO.bind ?_ (fun _ => ?_)
set_option maxHeartbeats 8000000 in
set_option maxRecDepth 100000 in
theorem api_Instr.calls (k : Nat) (P0_ : Nat → Prop) (u9000_ : Value) (l0 : List Int) (A1 : Option Addr) (c1 : Nat) (l1 : List (S74)) (r : List Int) (w0 w : World) (hB : Below w0.heap.size w0 w) (ho0 : Kd.R (Kd.int .u8) 5 w w0.heap.size P0_ u9000_ l0) (hr1 : ∀ W_, Kept w W_ (fun k_ => P0_ k_) → Kd.C k74 W_ A1 l1.length l1) (hc1 : l1.length ≤ c1) (h : api_Instr.f k l0 l1 = some r) :
 Calls Try.prog 33 #[u9000_, .slice A1 l1.length c1, .func (.func 34) #[] #[]] w fun e w' => ∃ v0_ : Value, e = .returned (v0_) ∧ Kd.R (Kd.int .u8) 5 w' w0.heap.size (fun k_ => (P0_ k_ ∨ w.heap.size ≤ k_)) v0_ r ∧ Below w0.heap.size w0 w' ∧ Kept w w' (fun k_ => P0_ k_) := by
 have hu74 := Try.underlying74
 have HO0 := Aside0.mk (show Kd.R (Kd.int .u8) 5 w w0.heap.size (fun k_ => (P0_ k_ ∨ w.heap.size ≤ k_)) u9000_ l0 from Kd.R_mono ho0 (fun k_ hk => (.inl hk)))
 have HR1 := Aside0.mk hr1
 have HC1 := Aside0.mk hc1
 clear hr1 hc1
 have HK := Aside0.mk (Kept.refl w (fun k_ => P0_ k_))
 have HW0 := Aside0.mk hB.size
 have HB := Aside0.mk hB
 clear hB
 have H : ((code_putCount.f k l0 (IntKind.u64.wrap ((l1.length : Int)))).bind fun t183 => (api_Instr.l0 k t183 l1 (l1.length : Int) 0)) = some r := h
 clear h
 replace H := Option.bind_eq_some_iff.mp H
 obtain ⟨t183, A30, H⟩ := H
 replace H : (api_Instr.l0 k t183 l1 (l1.length : Int) 0) = some r := H
 have A3 := Aside0.mk A30
 clear A30
 have H' := Aside0.mk H
 clear H
 obtain ⟨Ao4, co4, eo4⟩ := Kd.R_slice HO0.out
 subst eo4
 go_enter Try.func33, Try.ntmps33
 go_wp2_with (first | ((with_reducible refine gate_callee (f := 24) rfl ?_); refine goesL_ (some 13) rfl rfl Try.func24 (by kernel_rfl) rfl #[.slice Ao4 l0.length co4, .int .u64 (IntKind.u64.wrap ((l1.length : Int)))] rfl (by (try simp only [List.map_toArray, List.map_cons, List.map_nil]); first | done | rfl | (simp only [List.length_drop, List.length_take]; rfl)) ?_; (with_reducible refine (code_putCount.calls k (fun k_ => some k_ = (.slice Ao4 l0.length co4 : Value).ownBlock) (.slice Ao4 l0.length co4) l0 (IntKind.u64.wrap ((l1.length : Int))) t183 w0 _ ?side1 ?side2 A3.out).mono ?_); (case side1 => repeat (first | (with_reducible first | exact HB.out | apply below_alloc | apply pw_below_drewN | apply below_drew1) | exact HB.out)); (case side2 => exact Kd.R_tight rfl HO0.out); rintro e w5 ⟨v184, rfl, ho0, hb, hkp⟩; refine ⟨_, rfl, ?_⟩; have n0_ := Aside0.mk (Kd.R_mono (ok' := fun k_ => (P0_ k_ ∨ w.heap.size ≤ k_)) ho0 (fun k_ hk_ => Or.elim hk_ (fun hs_ => (HO0.out.1 k_ (hs_).symm)) (fun hn_ => (.inr (Nat.le_trans (by first | exact HK.out.1 | exact (show Kept w _ (fun k_ => P0_ k_) from by repeat (first | (with_reducible first | exact HK.out | apply Kept.alloc | apply Kept.drewN | apply Kept.drew) | exact HK.out)).1) hn_))))); have n1_ := Aside0.mk (Kept.then_ (S := (fun k_ => P0_ k_)) (by repeat (first | (with_reducible first | exact HK.out | apply Kept.alloc | apply Kept.drewN | apply Kept.drew) | exact HK.out)) hkp (fun k_ hs_ => (fun e_ => (HO0.out.1 k_ e_.symm)) hs_)); have n2_ := Aside0.mk (hb); clear HK; clear HB; clear HO0; have HO185 := n0_; have HK := n1_; have HB := n2_; clear n0_ n1_ n2_; (try clear hb); (try clear hkp); (try clear ho0)))
 go_loopg [0, 16] k (fun kq v0 v16 w' => ∃ (x0_1 : List Int) (x16_1 : Int), v16 = .int .i64 x16_1 ∧ Aside0 (api_Instr.l0 kq x0_1 l1 (l1.length : Int) x16_1 = some r) ∧ Aside0 (kq ≤ k) ∧ Aside0 (Kd.R (Kd.int .u8) 5 w' w0.heap.size (fun k_ => (P0_ k_ ∨ w.heap.size ≤ k_)) v0 x0_1) ∧ Aside0 (Kept w w' (fun k_ => P0_ k_)) ∧ Aside0 (Below w0.heap.size w0 w'))
 case atStart => exact ⟨(t183), (0), (by first | rfl | (simp; done) | (simp [*]; done) | (simp only [i64_w]; done) | (simp [i64_w, Int.tdiv_eq_ediv_of_nonneg]; done)), H', ⟨Nat.le_refl _⟩, ⟨by (with_reducible repeat (first | apply Kd.R_alloc | apply Kd.R_drewN | apply Kd.R_drew)); exact HO185.out⟩, ⟨by repeat (first | (with_reducible first | exact HK.out | apply Kept.alloc | apply Kept.drewN | apply Kept.drew) | exact HK.out)⟩, ⟨by repeat (first | (with_reducible first | exact HB.out | apply below_alloc | apply pw_below_drewN | apply below_drew1) | exact HB.out)⟩⟩
 case round =>
  clear H'
  try clear c1
  try clear c2
  try clear p2
  try clear c3
  obtain ⟨x0_1, x16_1, rfl, HA, HK1, HO_0, HK, HB⟩ := hrel
  cases gk with
  | zero => exact absurd HA.out (by simp [api_Instr.l0])
  | succ k1 =>
   have H := HA.out
   clear HA
   simp only [api_Instr.l0] at H
   by_cases c6 : x16_1 < (l1.length : Int)
   ·
    rw [if_pos c6] at H
    have c6b0 : decide (x16_1 < (l1.length : Int)) = true := decide_eq_true c6
    clear c6
    by_cases c7 : 0 ≤ x16_1
    ·
     rw [if_pos c7] at H
     have c7b0 : decide (0 ≤ x16_1) = true := decide_eq_true c7
     clear c7
     by_cases c8 : x16_1 < (l1.length : Int)
     ·
      rw [if_pos c8] at H
      have c8b0 : decide (x16_1 < (l1.length : Int)) = true := decide_eq_true c8
      clear c8
      replace H := Option.bind_eq_some_iff.mp H
      obtain ⟨t188, A90, H⟩ := H
      replace H : (api_Instr.l0 k1 t188 l1 (l1.length : Int) (wrap64 (x16_1 + 1))) = some r := H
      have A9 := Aside0.mk A90
      clear A90
      have H' := Aside0.mk H
      clear H
      have p186 : 0 ≤ (x16_1 : Int) := of_decide_eq_true (by first | (with_reducible assumption) | assumption)
      have q186 : x16_1 < (l1.length : Int) := of_decide_eq_true (by first | (with_reducible assumption) | assumption)
      obtain ⟨ad186, e186, hx186_0, hx186_1, hx186_2, hx186_3⟩ := at_T74 (Kd.C_kept_now HR1.out HK.out) x16_1 p186 q186
      cases e186
      replace p186 := eq_true p186
      replace q186 := eq_true q186
      go_wp2_with (first | ((with_reducible refine gate_dst (N := 8) rfl ?_); refine box_event ?hg (N := 8) ?hd (cs := #[.int .i64 0, .int .i64 0, .int .i64 0, .int .i64 0]) (t := 74) ?hr ?_; (case hd => rfl); (case hg => rfl); (case hr => first | (go_simp; done) | (go_simp; rfl)); intro gb187 hg w10 hbox hb; have n0_ := Aside0.mk (Kd.R_below (by (with_reducible repeat (first | apply Kd.R_alloc | apply Kd.R_drewN | apply Kd.R_drew)); exact HO_0.out) hb); have n1_ := Aside0.mk (Kept.below (S := (fun k_ => P0_ k_)) (by repeat (first | (with_reducible first | exact HK.out | apply Kept.alloc | apply Kept.drewN | apply Kept.drew) | exact HK.out)) hb); have n2_ := Aside0.mk (below_step (by repeat (first | (with_reducible first | exact HB.out | apply below_alloc | apply pw_below_drewN | apply below_drew1) | exact HB.out)) hb); have n3_ := Aside0.mk (hbox); have n4_ := Aside0.mk ((by rw [hg]; exact (by first | exact HK.out.1 | exact (show Kept w _ (fun k_ => P0_ k_) from by repeat (first | (with_reducible first | exact HK.out | apply Kept.alloc | apply Kept.drewN | apply Kept.drew) | exact HK.out)).1) : w.heap.size ≤ gb187)); have n5_ := Aside0.mk ((by rw [hg]; exact (below_size (by repeat (first | (with_reducible first | exact HB.out | apply below_alloc | apply pw_below_drewN | apply below_drew1) | exact HB.out))) : w0.heap.size ≤ gb187)); clear HO_0; clear HK; clear HB; have HO_0 := n0_; have HK := n1_; have HB := n2_; have BK187 := n3_; have GW187 := n4_; have GE187 := n5_; clear n0_ n1_ n2_ n3_ n4_ n5_; clear hb hbox hg; have hcz11_0 : w10.cell? ⟨gb187, 0, none⟩ = some (.int .i64 0) := (blk_cell BK187.out 0).trans rfl; have hcz11_1 : w10.cell? ⟨gb187, 1, none⟩ = some (.int .i64 0) := (blk_cell BK187.out 1).trans rfl; have hcz11_2 : w10.cell? ⟨gb187, 2, none⟩ = some (.int .i64 0) := (blk_cell BK187.out 2).trans rfl; have hcz11_3 : w10.cell? ⟨gb187, 3, none⟩ = some (.int .i64 0) := (blk_cell BK187.out 3).trans rfl; have hfz11_0 := blk_frozen BK187.out 0; have hfz11_1 := blk_frozen BK187.out 1; have hfz11_2 := blk_frozen BK187.out 2; have hfz11_3 := blk_frozen BK187.out 3) | ((with_reducible refine gate_store (t := 74) (p := 8) rfl ?_); refine store_event (t := 74) (p := 8) (v := ?vo_w12) (w1 := ((((w10.setCell ⟨gb187, 0, none⟩ (.int .i64 ((rd_T74 l1 x16_1).f0))).setCell ⟨gb187, 1, none⟩ (.int .i64 ((rd_T74 l1 x16_1).f1))).setCell ⟨gb187, 2, none⟩ (.int .i64 ((rd_T74 l1 x16_1).f2))).setCell ⟨gb187, 3, none⟩ (.int .i64 ((rd_T74 l1 x16_1).f3)))) ?hg ?ho ?hn ?hr ?_; (case ho => rfl); (case hg => rfl); (case hn => rfl); (case hr => first | (go_simp; done) | (go_simp; rfl)); intro w12 hw; have n0_ : Aside0 (Kd.R (Kd.int .u8) 5 w12 w0.heap.size (fun k_ => (P0_ k_ ∨ w.heap.size ≤ k_)) u0 x0_1) := ⟨(by rw [hw]; exact (by (with_reducible repeat (first | apply Kd.R_alloc | apply Kd.R_drewN | apply Kd.R_drew)); exact Kd.R_mono (Kd.R_far (p := ⟨gb187, 3, none⟩) (Kd.R_far (p := ⟨gb187, 2, none⟩) (Kd.R_far (p := ⟨gb187, 1, none⟩) (Kd.R_far (p := ⟨gb187, 0, none⟩) (Kd.R_types HO_0.out BK187.out (by decide)) (fun _ hk => hk.2) (.int .i64 ((rd_T74 l1 x16_1).f0))) (fun _ hk => hk.2) (.int .i64 ((rd_T74 l1 x16_1).f1))) (fun _ hk => hk.2) (.int .i64 ((rd_T74 l1 x16_1).f2))) (fun _ hk => hk.2) (.int .i64 ((rd_T74 l1 x16_1).f3))) (fun _ hk => hk.1)))⟩; have n1_ : Aside0 (w12.heap[gb187]? = some (.cells #[.int .i64 ((rd_T74 l1 x16_1).f0), .int .i64 ((rd_T74 l1 x16_1).f1), .int .i64 ((rd_T74 l1 x16_1).f2), .int .i64 ((rd_T74 l1 x16_1).f3)] 74 (0, 0))) := ⟨(by rw [hw]; exact (by (with_reducible repeat (first | refine blk_drewN ?_ _ | refine blk_drew ?_ | refine blk_alloc ?_ _)); refine blk_put (cs := #[.int .i64 ((rd_T74 l1 x16_1).f0), .int .i64 ((rd_T74 l1 x16_1).f1), .int .i64 ((rd_T74 l1 x16_1).f2), .int .i64 0]) ?_ 3 _ rfl; (with_reducible repeat (first | refine blk_drewN ?_ _ | refine blk_drew ?_ | refine blk_alloc ?_ _)); refine blk_put (cs := #[.int .i64 ((rd_T74 l1 x16_1).f0), .int .i64 ((rd_T74 l1 x16_1).f1), .int .i64 0, .int .i64 0]) ?_ 2 _ rfl; (with_reducible repeat (first | refine blk_drewN ?_ _ | refine blk_drew ?_ | refine blk_alloc ?_ _)); refine blk_put (cs := #[.int .i64 ((rd_T74 l1 x16_1).f0), .int .i64 0, .int .i64 0, .int .i64 0]) ?_ 1 _ rfl; (with_reducible repeat (first | refine blk_drewN ?_ _ | refine blk_drew ?_ | refine blk_alloc ?_ _)); refine blk_put (cs := #[.int .i64 0, .int .i64 0, .int .i64 0, .int .i64 0]) ?_ 0 _ rfl; (with_reducible repeat (first | refine blk_drewN ?_ _ | refine blk_drew ?_ | refine blk_alloc ?_ _)); exact BK187.out))⟩; have n2_ : Aside0 (Kept w w12 (fun k_ => P0_ k_)) := ⟨(by rw [hw]; exact (by repeat (first | (with_reducible first | exact HK.out | apply Kept.alloc | apply Kept.drewN | apply Kept.drew | refine Kept.setCell ?_ (.inr GW187.out) _) | exact HK.out)))⟩; have n3_ : Aside0 (Below w0.heap.size w0 w12) := ⟨(by rw [hw]; exact (by repeat (first | (with_reducible first | exact HB.out | apply below_alloc | apply pw_below_drewN | apply below_drew1 | refine below_set ?_ GE187.out) | exact HB.out)))⟩; clear hw; clear HO_0; clear BK187; clear HK; clear HB; have HO_0 := n0_; have BK187 := n1_; have HK := n2_; have HB := n3_; clear n0_ n1_ n2_ n3_; have hcz13_0 : w12.cell? ⟨gb187, 0, none⟩ = some (.int .i64 ((rd_T74 l1 x16_1).f0)) := (blk_cell BK187.out 0).trans rfl; have hcz13_1 : w12.cell? ⟨gb187, 1, none⟩ = some (.int .i64 ((rd_T74 l1 x16_1).f1)) := (blk_cell BK187.out 1).trans rfl; have hcz13_2 : w12.cell? ⟨gb187, 2, none⟩ = some (.int .i64 ((rd_T74 l1 x16_1).f2)) := (blk_cell BK187.out 2).trans rfl; have hcz13_3 : w12.cell? ⟨gb187, 3, none⟩ = some (.int .i64 ((rd_T74 l1 x16_1).f3)) := (blk_cell BK187.out 3).trans rfl; have hfz13_0 := blk_frozen BK187.out 0; have hfz13_1 := blk_frozen BK187.out 1; have hfz13_2 := blk_frozen BK187.out 2; have hfz13_3 := blk_frozen BK187.out 3; obtain ⟨Ao14, co14, eo14⟩ := Kd.R_slice HO_0.out; subst eo14) | ((with_reducible refine Go.Proofs.YtlocnfkkfpfpfaaX.gate_slot (k := 20) rfl ?_); refine Go.Proofs.YtlocnfkkfpfpfaaX.goesS_ (k := 20) (some 23) rfl rfl Try.func34 (by kernel_rfl) rfl rfl #[.slice Ao14 x0_1.length co14, .agg #[.int .i64 ((rd_T74 l1 x16_1).f0), .int .i64 ((rd_T74 l1 x16_1).f1), .int .i64 ((rd_T74 l1 x16_1).f2), .int .i64 ((rd_T74 l1 x16_1).f3)]] rfl (by (try simp only [List.map_toArray, List.map_cons, List.map_nil]); first | done | rfl | (simp only [List.length_drop, List.length_take]; rfl)) ?_; (with_reducible refine (code_Encode_3.calls k1 (fun k_ => some k_ = (.slice Ao14 x0_1.length co14 : Value).ownBlock) (.slice Ao14 x0_1.length co14) x0_1 ((rd_T74 l1 x16_1).f0) ((rd_T74 l1 x16_1).f1) ((rd_T74 l1 x16_1).f2) ((rd_T74 l1 x16_1).f3) t188 w0 _ ?side1 ?side2 A9.out).mono ?_); (case side1 => repeat (first | (with_reducible first | exact HB.out | apply below_alloc | apply pw_below_drewN | apply below_drew1 | refine below_set ?_ GE187.out) | exact HB.out)); (case side2 => exact Kd.R_tight rfl HO_0.out); rintro e w15 ⟨v189, rfl, ho0, hb, hkp⟩; refine ⟨_, rfl, ?_⟩; have n0_ := Aside0.mk (blk_kept (by (with_reducible repeat (first | refine blk_drewN ?_ _ | refine blk_drew ?_ | refine blk_alloc ?_ _)); exact BK187.out) hkp (fun hs_ => (fun e_ => (Kd.R_ne HO_0.out BK187.out (by decide)) e_) hs_)); have n1_ := Aside0.mk (Kd.R_mono (ok' := fun k_ => (P0_ k_ ∨ w.heap.size ≤ k_)) ho0 (fun k_ hk_ => Or.elim hk_ (fun hs_ => (HO_0.out.1 k_ (hs_).symm)) (fun hn_ => (.inr (Nat.le_trans (by first | exact HK.out.1 | exact (show Kept w _ (fun k_ => P0_ k_) from by repeat (first | (with_reducible first | exact HK.out | apply Kept.alloc | apply Kept.drewN | apply Kept.drew | refine Kept.setCell ?_ (.inr GW187.out) _) | exact HK.out)).1) hn_))))); have n2_ := Aside0.mk (Kept.then_ (S := (fun k_ => P0_ k_)) (by repeat (first | (with_reducible first | exact HK.out | apply Kept.alloc | apply Kept.drewN | apply Kept.drew | refine Kept.setCell ?_ (.inr GW187.out) _) | exact HK.out)) hkp (fun k_ hs_ => (fun e_ => (HO_0.out.1 k_ e_.symm)) hs_)); have n3_ := Aside0.mk (hb); clear BK187; clear HK; clear HB; clear HO_0; have BK187 := n0_; have HO190 := n1_; have HK := n2_; have HB := n3_; clear n0_ n1_ n2_ n3_; (try clear hb); (try clear hkp); (try clear ho0)))
      go_roundg k1
      case measure => have := HK1.out; omega
      case rel => exact ⟨(t188), (wrap64 (x16_1 + 1)), (by first | rfl | (simp; done) | (simp [*]; done) | (simp only [i64_w]; done) | (simp [i64_w, Int.tdiv_eq_ediv_of_nonneg]; done)), H', ⟨by have := HK1.out; omega⟩, ⟨by (with_reducible repeat (first | apply Kd.R_alloc | apply Kd.R_drewN | apply Kd.R_drew)); exact HO190.out⟩, ⟨by repeat (first | (with_reducible first | exact HK.out | apply Kept.alloc | apply Kept.drewN | apply Kept.drew | refine Kept.setCell ?_ (.inr GW187.out) _) | exact HK.out)⟩, ⟨by repeat (first | (with_reducible first | exact HB.out | apply below_alloc | apply pw_below_drewN | apply below_drew1 | refine below_set ?_ GE187.out) | exact HB.out)⟩⟩
     ·
      rw [if_neg c8] at H
      exact absurd H (by simp)
    ·
     rw [if_neg c7] at H
     exact absurd H (by simp)
   ·
    rw [if_neg c6] at H
    have c6b0 : decide (x16_1 < (l1.length : Int)) = false := decide_eq_false c6
    clear c6
    obtain rfl := Option.some.inj H
    go_wp2
    go_ret
    exact ⟨_, by first | rfl | (simp [errW_none, errW_some] <;> rfl) | (simp [*, errW_none, errW_some] <;> rfl), by (with_reducible repeat (first | apply Kd.R_alloc | apply Kd.R_drewN | apply Kd.R_drew)); exact HO_0.out, by repeat (first | (with_reducible first | exact HB.out | apply below_alloc | apply pw_below_drewN | apply below_drew1) | exact HB.out), by repeat (first | (with_reducible first | exact HK.out | apply Kept.alloc | apply Kept.drewN | apply Kept.drew) | exact HK.out)⟩
def berthlaw20_SameBytes.f (l0 : List Int) (l1 : List Int) : Option (Bool) := some ((strOfNums l0).toList == (strOfNums l1).toList)
set_option maxHeartbeats 8000000 in
set_option maxRecDepth 100000 in
theorem berthlaw20_SameBytes.calls (A0 : Option Addr) (c0 : Nat) (l0 : List Int) (A1 : Option Addr) (c1 : Nat) (l1 : List Int) (r : Bool) (w : World) (hr0 : Kd.C (Kd.int .u8) w A0 l0.length l0) (hc0 : l0.length ≤ c0) (hr1 : Kd.C (Kd.int .u8) w A1 l1.length l1) (hc1 : l1.length ≤ c1) (h : berthlaw20_SameBytes.f l0 l1 = some r) :
 Calls Try.prog 15 #[.slice A0 l0.length c0, .slice A1 l1.length c1] w fun e w' => e = .returned (.bool r) ∧ Drawn0 w w' := by
 have HR0 := Aside0.mk hr0
 have HC0 := Aside0.mk hc0
 clear hr0 hc0
 have HR1 := Aside0.mk hr1
 have HC1 := Aside0.mk hc1
 clear hr1 hc1
 have H : (some ((strOfNums l0).toList == (strOfNums l1).toList)) = some r := h
 clear h
 obtain rfl := Option.some.inj H
 have hcv3 := Kd.C_string (P := Try.prog) (A := A0) (c := c0) Try.underlying34 Try.underlying5 Try.underlying9 HR0.out
 have hcv4 := Kd.C_string (P := Try.prog) (A := A1) (c := c1) Try.underlying34 Try.underlying5 Try.underlying9 HR1.out
 go_enter Try.func15, Try.ntmps15
 go_wp2
 go_ret
 exact ⟨by first | rfl | (simp; done) | (simp [*]; done) | (simp only [i64_w]; done) | (simp [i64_w, Int.tdiv_eq_ediv_of_nonneg]; done), by repeat (first | exact Drawn0.refl _ | apply Drawn0.step)⟩
mutual
def berthref20_LessTexts.l0 : Nat → List ByteArray → List ByteArray → Int → Option (Bool)
  | 0, _, _, _ => none
  | k + 1, x0, x1, x5 => if x5 < (x0.length : Int) then (berthref20_LessTexts.j1 k x0 x1 x5 (decide (x5 < (x1.length : Int)))) else (berthref20_LessTexts.j1 k x0 x1 x5 false)
def berthref20_LessTexts.j1 : Nat → List ByteArray → List ByteArray → Int → Bool → Option (Bool)
  | 0, _, _, _, _ => none
  | k + 1, x0, x1, x5, x15 => if x15 = true then (if 0 ≤ x5 then (if x5 < (x0.length : Int) then (if x5 < (x1.length : Int) then (if (rdOf ByteArray.empty x0 x5).toList = (rdOf ByteArray.empty x1 x5).toList then (berthref20_LessTexts.l0 k x0 x1 (wrap64 (x5 + 1))) else (some (Op.bytesLess ((rdOf ByteArray.empty x0 x5).toList) ((rdOf ByteArray.empty x1 x5).toList)))) else (none)) else (none)) else (none)) else (some (decide ((x0.length : Int) < (x1.length : Int))))
end
def berthref20_LessTexts.f (k : Nat) (l0 : List ByteArray) (l1 : List ByteArray) : Option (Bool) := berthref20_LessTexts.l0 k l0 l1 0
theorem berthref20_LessTexts.mono_l : ∀ k, (∀ y0 y1 y2, LeO (berthref20_LessTexts.l0 k y0 y1 y2) (berthref20_LessTexts.l0 (k + 1) y0 y1 y2)) ∧ (∀ y0 y1 y2 y3, LeO (berthref20_LessTexts.j1 k y0 y1 y2 y3) (berthref20_LessTexts.j1 (k + 1) y0 y1 y2 y3))
  | 0 => ⟨fun _ _ _ r h => by simp [berthref20_LessTexts.l0] at h, fun _ _ _ _ r h => by simp [berthref20_LessTexts.j1] at h⟩
  | k + 1 => by
    obtain ⟨ih0, ih1⟩ := berthref20_LessTexts.mono_l k
    refine ⟨?_, ?_⟩
    · intro y0 y1 y2
      unfold berthref20_LessTexts.l0
      repeat' first
      | (with_reducible exact ih0 _ _ _)
      | (with_reducible exact ih1 _ _ _ _)
      | (with_reducible exact LeO.refl _)
      | (with_reducible exact LeO.none _)
      | (with_reducible refine LeO.ite ?_ ?_)
      | (with_reducible refine LeO.bind ?_ (fun _ => ?_))
      | exact ih0 _ _ _
      | exact ih1 _ _ _ _
      | exact LeO.none _
      | refine LeO.ite ?_ ?_
      | refine LeO.bind ?_ (fun _ => ?_)
    · intro y0 y1 y2 y3
      unfold berthref20_LessTexts.j1
      repeat' first
      | (with_reducible exact ih0 _ _ _)
      | (with_reducible exact ih1 _ _ _ _)
      | (with_reducible exact LeO.refl _)
      | (with_reducible exact LeO.none _)
      | (with_reducible refine LeO.ite ?_ ?_)
      | (with_reducible refine LeO.bind ?_ (fun _ => ?_))
      | exact ih0 _ _ _
      | exact ih1 _ _ _ _
      | exact LeO.none _
      | refine LeO.ite ?_ ?_
      | refine LeO.bind ?_ (fun _ => ?_)
theorem berthref20_LessTexts.mono : ∀ a0 a1 k, LeO (berthref20_LessTexts.f k a0 a1) (berthref20_LessTexts.f (k + 1) a0 a1) := by
  intro a0 a1 k
  obtain ⟨ih0, ih1⟩ := berthref20_LessTexts.mono_l k
  unfold berthref20_LessTexts.f
  repeat' first
      | (with_reducible exact ih0 _ _ _)
      | (with_reducible exact ih1 _ _ _ _)
      | (with_reducible exact LeO.refl _)
      | (with_reducible exact LeO.none _)
      | (with_reducible refine LeO.ite ?_ ?_)
      | (with_reducible refine LeO.bind ?_ (fun _ => ?_))
      | exact ih0 _ _ _
      | exact ih1 _ _ _ _
      | exact LeO.none _
      | refine LeO.ite ?_ ?_
      | refine LeO.bind ?_ (fun _ => ?_)
set_option maxHeartbeats 8000000 in
set_option maxRecDepth 100000 in
theorem berthref20_LessTexts.calls (k : Nat) (A0 : Option Addr) (c0 : Nat) (l0 : List ByteArray) (A1 : Option Addr) (c1 : Nat) (l1 : List ByteArray) (r : Bool) (w : World) (hr0 : Kd.C Kd.string w A0 l0.length l0) (hc0 : l0.length ≤ c0) (hr1 : Kd.C Kd.string w A1 l1.length l1) (hc1 : l1.length ≤ c1) (h : berthref20_LessTexts.f k l0 l1 = some r) :
 Calls Try.prog 66 #[.slice A0 l0.length c0, .slice A1 l1.length c1] w fun e w' => e = .returned (.bool r) ∧ Drawn0 w w' := by
 have HR0 := Aside0.mk hr0
 have HC0 := Aside0.mk hc0
 clear hr0 hc0
 have HR1 := Aside0.mk hr1
 have HC1 := Aside0.mk hc1
 clear hr1 hc1
 have H : (berthref20_LessTexts.l0 k l0 l1 0) = some r := h
 clear h
 have H' := Aside0.mk H
 clear H
 go_enter Try.func66, Try.ntmps66
 go_wp2
 repeat (go_quiet (fail); try go_wp2)
 go_loopg [5] k (fun kq v5 w' => ∃ (x5_1 : Int), v5 = .int .i64 x5_1 ∧ Aside0 (berthref20_LessTexts.l0 kq l0 l1 x5_1 = some r) ∧ Aside0 (kq ≤ k) ∧ Drawn0 w w')
 case atStart => exact ⟨(0), (by first | rfl | (simp; done) | (simp [*]; done) | (simp only [i64_w]; done) | (simp [i64_w, Int.tdiv_eq_ediv_of_nonneg]; done)), H', ⟨Nat.le_refl _⟩, by repeat (first | exact Drawn0.refl _ | apply Drawn0.step)⟩
 case round =>
  clear H'
  try clear c1
  try clear p2
  obtain ⟨x5_1, rfl, HA, HK1, ⟨m1, rfl⟩⟩ := hrel
  cases gk with
  | zero => exact absurd HA.out (by simp [berthref20_LessTexts.l0])
  | succ k1 =>
   have H := HA.out
   clear HA
   simp only [berthref20_LessTexts.l0] at H
   have HC3 := Aside0.mk H
   clear H
   go_upto_region 2 with (fail)
   repeat (go_quiet (fail); go_upto_region 2 with (fail))
   go_cut [15] (fun v15 wc => ∃ (kq : Nat) (x15_2 : Bool), v15 = .bool x15_2 ∧ Aside0 (berthref20_LessTexts.j1 kq l0 l1 x5_1 x15_2 = some r) ∧ Aside0 (kq ≤ k1) ∧ Drawn0 w wc)
   case first =>
    have H := HC3.out
    clear HC3
    by_cases c4 : x5_1 < (l0.length : Int)
    ·
     rw [if_pos c4] at H
     have c4b0 : decide (x5_1 < (l0.length : Int)) = true := decide_eq_true c4
     clear c4
     (first | rw [c4b0] | (simp only [i64_w, i32_w]; rw [c4b0]) | skip)
     have H' := Aside0.mk H
     clear H
     go_wp2
     repeat (go_quiet (fail); try go_wp2)
     go_meet
     case rel => exact ⟨_, (decide (x5_1 < (l1.length : Int))), (by first | rfl | (simp; done) | (simp [*]; done) | (simp only [i64_w]; done) | (simp [i64_w, Int.tdiv_eq_ediv_of_nonneg]; done)), H', ⟨by have := HK1.out; first | omega | exact Nat.le_refl _⟩, by repeat (first | exact Drawn0.refl _ | apply Drawn0.step)⟩
    ·
     rw [if_neg c4] at H
     have c4b0 : decide (x5_1 < (l0.length : Int)) = false := decide_eq_false c4
     clear c4
     (first | rw [c4b0] | (simp only [i64_w, i32_w]; rw [c4b0]) | skip)
     have H' := Aside0.mk H
     clear H
     go_wp2
     repeat (go_quiet (fail); try go_wp2)
     go_meet
     case rel => exact ⟨_, (false), (by first | rfl | (simp; done) | (simp [*]; done) | (simp only [i64_w]; done) | (simp [i64_w, Int.tdiv_eq_ediv_of_nonneg]; done)), H', ⟨by have := HK1.out; first | omega | exact Nat.le_refl _⟩, by repeat (first | exact Drawn0.refl _ | apply Drawn0.step)⟩
   case rest =>
    clear HC3
    try clear c1
    try clear p2
    try clear c4
    try clear c4b0
    try clear p2
    obtain ⟨kq, x15_2, rfl, HA, HJ2, ⟨mc2, rfl⟩⟩ := hcut
    cases kq with
    | zero => exact absurd HA.out (by simp [berthref20_LessTexts.j1])
    | succ kj2 =>
     have H := HA.out
     clear HA
     simp only [berthref20_LessTexts.j1] at H
     by_cases c5 : x15_2 = true
     ·
      subst c5
      have H1 : (if 0 ≤ x5_1 then (if x5_1 < (l0.length : Int) then (if x5_1 < (l1.length : Int) then (if (rdOf ByteArray.empty l0 x5_1).toList = (rdOf ByteArray.empty l1 x5_1).toList then (berthref20_LessTexts.l0 kj2 l0 l1 (wrap64 (x5_1 + 1))) else (some (Op.bytesLess ((rdOf ByteArray.empty l0 x5_1).toList) ((rdOf ByteArray.empty l1 x5_1).toList)))) else (none)) else (none)) else (none)) = some r := by rw [if_pos rfl] at H; exact H
      clear H
      have H := H1
      clear H1
      by_cases c6 : 0 ≤ x5_1
      ·
       rw [if_pos c6] at H
       have c6b0 : decide (0 ≤ x5_1) = true := decide_eq_true c6
       clear c6
       by_cases c7 : x5_1 < (l0.length : Int)
       ·
        rw [if_pos c7] at H
        have c7b0 : decide (x5_1 < (l0.length : Int)) = true := decide_eq_true c7
        clear c7
        by_cases c8 : x5_1 < (l1.length : Int)
        ·
         rw [if_pos c8] at H
         have c8b0 : decide (x5_1 < (l1.length : Int)) = true := decide_eq_true c8
         clear c8
         by_cases c9 : (rdOf ByteArray.empty l0 x5_1).toList = (rdOf ByteArray.empty l1 x5_1).toList
         ·
          rw [if_pos c9] at H
          have c9b0 : ((rdOf ByteArray.empty l0 x5_1).toList == (rdOf ByteArray.empty l1 x5_1).toList) = true := beq_iff_eq.mpr c9
          have c9b1 : ((rdOf ByteArray.empty l0 x5_1).toList != (rdOf ByteArray.empty l1 x5_1).toList) = false := bne_eq_false_iff_eq.mpr c9
          clear c9
          have H' := Aside0.mk H
          clear H
          have p194 : 0 ≤ (x5_1 : Int) := of_decide_eq_true (by first | (with_reducible assumption) | assumption)
          have q194 : x5_1 < (l0.length : Int) := of_decide_eq_true (by first | (with_reducible assumption) | assumption)
          obtain ⟨ad194, e194, hx194_0⟩ := Kd.at_string HR0.out x5_1 p194 q194
          cases e194
          replace p194 := eq_true p194
          replace q194 := eq_true q194
          have p195 : 0 ≤ (x5_1 : Int) := of_decide_eq_true (by first | (with_reducible assumption) | assumption)
          have q195 : x5_1 < (l1.length : Int) := of_decide_eq_true (by first | (with_reducible assumption) | assumption)
          obtain ⟨ad195, e195, hx195_0⟩ := Kd.at_string HR1.out x5_1 p195 q195
          cases e195
          replace p195 := eq_true p195
          replace q195 := eq_true q195
          go_wp2
          repeat (go_quiet (fail); try go_wp2)
          go_roundg kj2
          case measure => have := HK1.out; have := HJ2.out; omega
          case rel => exact ⟨(wrap64 (x5_1 + 1)), (by first | rfl | (simp; done) | (simp [*]; done) | (simp only [i64_w]; done) | (simp [i64_w, Int.tdiv_eq_ediv_of_nonneg]; done)), H', ⟨by have := HK1.out; have := HJ2.out; omega⟩, by repeat (first | exact Drawn0.refl _ | apply Drawn0.step)⟩
         ·
          rw [if_neg c9] at H
          have c9b0 : ((rdOf ByteArray.empty l0 x5_1).toList == (rdOf ByteArray.empty l1 x5_1).toList) = false := beq_eq_false_iff_ne.mpr c9
          have c9b1 : ((rdOf ByteArray.empty l0 x5_1).toList != (rdOf ByteArray.empty l1 x5_1).toList) = true := bne_iff_ne.mpr c9
          obtain rfl := Option.some.inj H
          have p194 : 0 ≤ (x5_1 : Int) := of_decide_eq_true (by first | (with_reducible assumption) | assumption)
          have q194 : x5_1 < (l0.length : Int) := of_decide_eq_true (by first | (with_reducible assumption) | assumption)
          obtain ⟨ad194, e194, hx194_0⟩ := Kd.at_string HR0.out x5_1 p194 q194
          cases e194
          replace p194 := eq_true p194
          replace q194 := eq_true q194
          have p195 : 0 ≤ (x5_1 : Int) := of_decide_eq_true (by first | (with_reducible assumption) | assumption)
          have q195 : x5_1 < (l1.length : Int) := of_decide_eq_true (by first | (with_reducible assumption) | assumption)
          obtain ⟨ad195, e195, hx195_0⟩ := Kd.at_string HR1.out x5_1 p195 q195
          cases e195
          replace p195 := eq_true p195
          replace q195 := eq_true q195
          have p196 : 0 ≤ (x5_1 : Int) := of_decide_eq_true (by first | (with_reducible assumption) | assumption)
          have q196 : x5_1 < (l0.length : Int) := of_decide_eq_true (by first | (with_reducible assumption) | assumption)
          obtain ⟨ad196, e196, hx196_0⟩ := Kd.at_string HR0.out x5_1 p196 q196
          obtain rfl : ad194 = ad196 := (by injection e196)
          replace p196 := eq_true p196
          replace q196 := eq_true q196
          have p197 : 0 ≤ (x5_1 : Int) := of_decide_eq_true (by first | (with_reducible assumption) | assumption)
          have q197 : x5_1 < (l1.length : Int) := of_decide_eq_true (by first | (with_reducible assumption) | assumption)
          obtain ⟨ad197, e197, hx197_0⟩ := Kd.at_string HR1.out x5_1 p197 q197
          obtain rfl : ad195 = ad197 := (by injection e197)
          replace p197 := eq_true p197
          replace q197 := eq_true q197
          go_wp2
          repeat (go_quiet (fail); try go_wp2)
          go_ret
          exact ⟨by first | rfl | (simp; done) | (simp [*]; done) | (simp only [i64_w]; done) | (simp [i64_w, Int.tdiv_eq_ediv_of_nonneg]; done), by repeat (first | exact Drawn0.refl _ | apply Drawn0.step)⟩
        ·
         rw [if_neg c8] at H
         exact absurd H (by simp)
       ·
        rw [if_neg c7] at H
        exact absurd H (by simp)
      ·
       rw [if_neg c6] at H
       exact absurd H (by simp)
     ·
      replace c5 := Bool.eq_false_iff.mpr c5
      subst c5
      have H1 : (some (decide ((l0.length : Int) < (l1.length : Int)))) = some r := by rw [if_neg (show ¬ (false = true) by decide)] at H; exact H
      clear H
      have H := H1
      clear H1
      obtain rfl := Option.some.inj H
      go_wp2
      repeat (go_quiet (fail); try go_wp2)
      go_ret
      exact ⟨by first | rfl | (simp; done) | (simp [*]; done) | (simp only [i64_w]; done) | (simp [i64_w, Int.tdiv_eq_ediv_of_nonneg]; done), by repeat (first | exact Drawn0.refl _ | apply Drawn0.step)⟩
end Go.Proofs.Ytlocnfkkfpfpfaa.Six
