/- The walks of the law's own 'wide', 'plus' and 'below' (products in four parts) and what they come to. -/
import Derived.Test.YtbibnendaddbhaaQ8
import Derived.LoopN
import Derived.Handy
import Derived.StillTailTactics
import Derived.BigRegion
namespace Go.Proofs.Ytbibnendaddbhaa.Q
open Go.RowKit Go.Proofs.YtbibnendaddbhaaW.PrintWords Go.Proofs.YtbibnendaddbhaaW.PrintLast Go.Proofs.YtbibnendaddbhaaW.PrintMore Go.Proofs.YtbibnendaddbhaaP Go.Proofs.Ytbibnendaddbhaa.All

/-- A number in four parts. -/
def P4 (a b c d : Int) : Value := .agg #[.int .i64 a, .int .i64 b, .int .i64 c, .int .i64 d]
def L4 (n : Nat) : Value := P4 ((n % 4294967296 : Nat) : Int) ((n / 4294967296 % 4294967296 : Nat) : Int) ((n / 18446744073709551616 % 4294967296 : Nat) : Int) ((n / 79228162514264337593543950336 : Nat) : Int)
theorem i64_and32 (n : Int) : Go.bits .and .i64 n 4294967295 = n % 4294967296 := by
  have h1 : (BitVec.ofInt 64 4294967295).toNat = 2 ^ 32 - 1 := by decide
  have key : (BitVec.ofInt 64 n &&& BitVec.ofInt 64 4294967295).toNat = (n % ((2 ^ 64 : Nat) : Int)).toNat % 2 ^ 32 := by
    rw [BitVec.toNat_and, BitVec.toNat_ofInt, h1, Nat.and_two_pow_sub_one_eq_mod]
  show IntKind.i64.wrap ((BitVec.ofInt 64 n &&& BitVec.ofInt 64 4294967295).toNat : Nat) = n % 4294967296
  rw [key, IntKind.wrap_i64]
  omega

def wideV (a b : Int) : Value :=
  let u := IntKind.u64.wrap
  let al := Go.bits .and .i64 a 4294967295
  let ah := a / 4294967296
  let bl := Go.bits .and .i64 b 4294967295
  let bh := b / 4294967296
  let x := u (u al * u bl)
  let x2 := u (x / 4294967296 + u (u al * u bh))
  let y := u (Go.bits .and .u64 x2 4294967295 + u (u ah * u bl))
  let x3 := u (u (x2 / 4294967296 + y / 4294967296) + u (u ah * u bh))
  P4 (wrap64 (Go.bits .and .u64 x 4294967295)) (wrap64 (Go.bits .and .u64 y 4294967295)) (wrap64 (Go.bits .and .u64 x3 4294967295)) (wrap64 (x3 / 4294967296))
theorem heap2_old (w : World) (A B : Obj) : ((w.alloc A).alloc B).heap[w.heap.size]? = some A := by
  rw [heap_alloc_old (w.alloc A) B (r := w.heap.size) (by show _ < (w.heap.push A).size; simp)]
  exact heap_alloc_new w A
set_option maxHeartbeats 8000000 in
set_option maxRecDepth 100000 in
theorem wide.walk (a b : Int) (w : World) : Calls Try.prog 16 #[.int .i64 a, .int .i64 b] w fun re w' => re = .returned (wideV a b) ∧ Below w.heap.size w w' := by
  go_enter Try.func16, Try.ntmps16
  go_wp2
  refine bodyPost_ret (results_cell_row rfl _ _ w.heap.size _ _ _ _ rfl (heap2_old w _ _) Try.underlying41 rfl rfl) rfl ?_
  exact ⟨rfl, by go_grown⟩
def plusV (a b c d n : Int) : Value :=
  let p0 := wrap64 (a + Go.bits .and .i64 n 4294967295)
  let p1 := wrap64 (wrap64 (b + n / 4294967296) + p0 / 4294967296)
  let p2 := wrap64 (c + p1 / 4294967296)
  let p3 := wrap64 (d + p2 / 4294967296)
  P4 (Go.bits .and .i64 p0 4294967295) (Go.bits .and .i64 p1 4294967295) (Go.bits .and .i64 p2 4294967295) p3
set_option maxHeartbeats 8000000 in
set_option maxRecDepth 100000 in
theorem plus.walk (a b c d n : Int) (w : World) : Calls Try.prog 17 #[P4 a b c d, .int .i64 n] w fun re w' => re = .returned (plusV a b c d n) ∧ Below w.heap.size w w' := by
  unfold P4
  go_enter Try.func17, Try.ntmps17
  go_wp2
  refine wp_loop_rounds 4 ?_
  rw [rounds_succ]
  go_wp2
  go_region
  go_wp2
  rw [rounds_succ]
  go_wp2
  go_region
  go_wp2
  rw [rounds_succ]
  go_wp2
  go_region
  go_wp2
  rw [rounds_succ]
  go_wp2
  refine bodyPost_ret (results_cell_row rfl _ _ (w.heap.size + 1) _ _ _ _ rfl (heap_alloc2_new w _ _) Try.underlying41 rfl rfl) rfl ?_
  exact ⟨rfl, by go_grown⟩
set_option maxHeartbeats 8000000 in
set_option maxRecDepth 100000 in
theorem below.walk3 (a b c d e f g h : Int) (w : World) (hd : d ≠ h) : Calls Try.prog 18 #[P4 a b c d, P4 e f g h] w fun re w' => re = .returned (.bool (decide (d < h))) ∧ Below w.heap.size w w' := by
  have hb : (d != h) = true := by simp [hd]
  unfold P4
  go_enter Try.func18, Try.ntmps18
  go_wp2
  refine wp_loop_rounds 5 ?_
  rw [rounds_succ]
  go_wp2
  go_region
  go_wp2
  go_region
  go_wp2
  go_ret
  exact ⟨rfl, by go_grown⟩
set_option maxHeartbeats 8000000 in
set_option maxRecDepth 100000 in
theorem below.walk2 (a b c d e f g : Int) (w : World) (hd : c ≠ g) : Calls Try.prog 18 #[P4 a b c d, P4 e f g d] w fun re w' => re = .returned (.bool (decide (c < g))) ∧ Below w.heap.size w w' := by
  have hb : (c != g) = true := by simp [hd]
  have hb3 : (d != d) = false := by simp
  unfold P4
  go_enter Try.func18, Try.ntmps18
  go_wp2
  refine wp_loop_rounds 5 ?_
  rw [rounds_succ]
  go_wp2
  go_region
  go_wp2
  rw [rounds_succ]
  go_wp2
  go_region
  go_wp2
  go_region
  go_wp2
  go_ret
  exact ⟨rfl, by go_grown⟩
set_option maxHeartbeats 8000000 in
set_option maxRecDepth 100000 in
theorem below.walk1 (a b c d e f : Int) (w : World) (hd : b ≠ f) : Calls Try.prog 18 #[P4 a b c d, P4 e f c d] w fun re w' => re = .returned (.bool (decide (b < f))) ∧ Below w.heap.size w w' := by
  have hb : (b != f) = true := by simp [hd]
  have hb3 : (d != d) = false := by simp
  have hb2 : (c != c) = false := by simp
  unfold P4
  go_enter Try.func18, Try.ntmps18
  go_wp2
  refine wp_loop_rounds 5 ?_
  rw [rounds_succ]
  go_wp2
  go_region
  go_wp2
  rw [rounds_succ]
  go_wp2
  go_region
  go_wp2
  rw [rounds_succ]
  go_wp2
  go_region
  go_wp2
  go_region
  go_wp2
  go_ret
  exact ⟨rfl, by go_grown⟩
set_option maxHeartbeats 8000000 in
set_option maxRecDepth 100000 in
theorem below.walk0 (a b c d e : Int) (w : World) (hd : a ≠ e) : Calls Try.prog 18 #[P4 a b c d, P4 e b c d] w fun re w' => re = .returned (.bool (decide (a < e))) ∧ Below w.heap.size w w' := by
  have hb : (a != e) = true := by simp [hd]
  have hb3 : (d != d) = false := by simp
  have hb2 : (c != c) = false := by simp
  have hb1 : (b != b) = false := by simp
  unfold P4
  go_enter Try.func18, Try.ntmps18
  go_wp2
  refine wp_loop_rounds 5 ?_
  rw [rounds_succ]
  go_wp2
  go_region
  go_wp2
  rw [rounds_succ]
  go_wp2
  go_region
  go_wp2
  rw [rounds_succ]
  go_wp2
  go_region
  go_wp2
  rw [rounds_succ]
  go_wp2
  go_region
  go_wp2
  go_region
  go_wp2
  go_ret
  exact ⟨rfl, by go_grown⟩
set_option maxHeartbeats 8000000 in
set_option maxRecDepth 100000 in
theorem below.walkE (a b c d : Int) (w : World) : Calls Try.prog 18 #[P4 a b c d, P4 a b c d] w fun re w' => re = .returned (.bool false) ∧ Below w.heap.size w w' := by
  have hb0 : (a != a) = false := by simp
  have hb1 : (b != b) = false := by simp
  have hb2 : (c != c) = false := by simp
  have hb3 : (d != d) = false := by simp
  unfold P4
  go_enter Try.func18, Try.ntmps18
  go_wp2
  refine wp_loop_rounds 5 ?_
  rw [rounds_succ]
  go_wp2
  go_region
  go_wp2
  rw [rounds_succ]
  go_wp2
  go_region
  go_wp2
  rw [rounds_succ]
  go_wp2
  go_region
  go_wp2
  rw [rounds_succ]
  go_wp2
  go_region
  go_wp2
  rw [rounds_succ]
  go_wp2
  go_ret
  exact ⟨rfl, by go_grown⟩
end Go.Proofs.Ytbibnendaddbhaa.Q
