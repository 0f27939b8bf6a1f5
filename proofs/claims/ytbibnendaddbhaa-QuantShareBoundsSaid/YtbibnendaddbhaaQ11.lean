/- The walk of QuantShareBounds: true, whatever the numbers. -/
import Derived.Test.YtbibnendaddbhaaQ10
import Derived.Deep.RegionHeld3
namespace Go.Proofs.Ytbibnendaddbhaa.Q
set_option linter.unusedSimpArgs false
open Go.RowKit Go.Proofs.YtbibnendaddbhaaW.PrintWords Go.Proofs.YtbibnendaddbhaaW.PrintLast Go.Proofs.YtbibnendaddbhaaW.PrintMore Go.Proofs.YtbibnendaddbhaaP Go.Proofs.Ytbibnendaddbhaa.All
theorem fixedOk : ∃ k, berthlaw02_fixedShare.f k = some true := by
  apply Ev.rounds
  unfold berthlaw02_fixedShare.f
  refine Ev.bind (share_ev (p := 1) (w := 3) (s := 100) (by decide) (by decide) (by decide)) ?_
  have : shareV 1 3 100 = (33, 0) := by decide
  rw [this]
  exact ev_pos rfl (ev_some' rfl)
section
variable {p wh s : Int} (hp : p ≤ 9223372036854775807) (hs : s ≤ 9223372036854775807) (hw : wh ≤ 9223372036854775807)
include hp hs hw
set_option maxHeartbeats 8000000 in
set_option maxRecDepth 100000 in
theorem bounds_A1 (h1 : p < 0) (w : World) : Calls Try.prog 6 #[.int .i64 p, .int .i64 wh, .int .i64 s] w fun re w' => re = .returned (.bool true) ∧ Below w.heap.size w w' := by
  obtain ⟨k, hk⟩ := fixedOk
  obtain ⟨k2, hk2⟩ := Ev.rounds (share_ev hp hs hw)
  have hv : shareV p wh s = (0, 26) := if_pos (Or.inl h1)
  rw [hv] at hk2
  go_enter Try.func6, Try.ntmps6
  go_wp2_with (first | ((with_reducible refine gate_callee (f := 13) rfl ?_); refine goesL_ (some 12) rfl rfl Try.func13 (by kernel_rfl) rfl #[] rfl (by (try simp only [List.map_toArray, List.map_cons, List.map_nil]); first | done | rfl) ?_; (with_reducible refine (berthlaw02_fixedShare.calls k true _ hk).mono ?_); rintro e w' ⟨rfl, ⟨nd, rfl⟩⟩; refine ⟨_, rfl, ?_⟩) | ((with_reducible refine gate_callee (f := 14) rfl ?_); refine goesL_ (some 18) rfl rfl Try.func14 (by kernel_rfl) rfl #[.int .i64 p, .int .i64 wh, .int .i64 s] rfl (by (try simp only [List.map_toArray, List.map_cons, List.map_nil]); first | done | rfl) ?_; (with_reducible refine (quant_Share.calls k2 p wh s 0 26 _ hk2).mono ?_); rintro e w' ⟨rfl, ⟨nd2, rfl⟩⟩; refine ⟨_, rfl, ?_⟩))
  go_ret
  exact ⟨rfl, pw_below_drewN (Below.refl _ _) _⟩
set_option maxHeartbeats 8000000 in
set_option maxRecDepth 100000 in
theorem bounds_A2 (h1 : ¬ p < 0) (h2 : s < 0) (w : World) : Calls Try.prog 6 #[.int .i64 p, .int .i64 wh, .int .i64 s] w fun re w' => re = .returned (.bool true) ∧ Below w.heap.size w w' := by
  obtain ⟨k, hk⟩ := fixedOk
  obtain ⟨k2, hk2⟩ := Ev.rounds (share_ev hp hs hw)
  have hv : shareV p wh s = (0, 26) := if_pos (Or.inr (Or.inl h2))
  rw [hv] at hk2
  go_enter Try.func6, Try.ntmps6
  go_wp2_with (first | ((with_reducible refine gate_callee (f := 13) rfl ?_); refine goesL_ (some 12) rfl rfl Try.func13 (by kernel_rfl) rfl #[] rfl (by (try simp only [List.map_toArray, List.map_cons, List.map_nil]); first | done | rfl) ?_; (with_reducible refine (berthlaw02_fixedShare.calls k true _ hk).mono ?_); rintro e w' ⟨rfl, ⟨nd, rfl⟩⟩; refine ⟨_, rfl, ?_⟩) | ((with_reducible refine gate_callee (f := 14) rfl ?_); refine goesL_ (some 18) rfl rfl Try.func14 (by kernel_rfl) rfl #[.int .i64 p, .int .i64 wh, .int .i64 s] rfl (by (try simp only [List.map_toArray, List.map_cons, List.map_nil]); first | done | rfl) ?_; (with_reducible refine (quant_Share.calls k2 p wh s 0 26 _ hk2).mono ?_); rintro e w' ⟨rfl, ⟨nd2, rfl⟩⟩; refine ⟨_, rfl, ?_⟩))
  go_ret
  exact ⟨rfl, pw_below_drewN (Below.refl _ _) _⟩
set_option maxHeartbeats 8000000 in
set_option maxRecDepth 100000 in
theorem bounds_A3 (h1 : ¬ p < 0) (h2 : ¬ s < 0) (h3 : wh < 1) (w : World) : Calls Try.prog 6 #[.int .i64 p, .int .i64 wh, .int .i64 s] w fun re w' => re = .returned (.bool true) ∧ Below w.heap.size w w' := by
  obtain ⟨k, hk⟩ := fixedOk
  obtain ⟨k2, hk2⟩ := Ev.rounds (share_ev hp hs hw)
  have hv : shareV p wh s = (0, 26) := if_pos (Or.inr (Or.inr h3))
  rw [hv] at hk2
  go_enter Try.func6, Try.ntmps6
  go_wp2_with (first | ((with_reducible refine gate_callee (f := 13) rfl ?_); refine goesL_ (some 12) rfl rfl Try.func13 (by kernel_rfl) rfl #[] rfl (by (try simp only [List.map_toArray, List.map_cons, List.map_nil]); first | done | rfl) ?_; (with_reducible refine (berthlaw02_fixedShare.calls k true _ hk).mono ?_); rintro e w' ⟨rfl, ⟨nd, rfl⟩⟩; refine ⟨_, rfl, ?_⟩) | ((with_reducible refine gate_callee (f := 14) rfl ?_); refine goesL_ (some 18) rfl rfl Try.func14 (by kernel_rfl) rfl #[.int .i64 p, .int .i64 wh, .int .i64 s] rfl (by (try simp only [List.map_toArray, List.map_cons, List.map_nil]); first | done | rfl) ?_; (with_reducible refine (quant_Share.calls k2 p wh s 0 26 _ hk2).mono ?_); rintro e w' ⟨rfl, ⟨nd2, rfl⟩⟩; refine ⟨_, rfl, ?_⟩))
  go_ret
  exact ⟨rfl, pw_below_drewN (Below.refl _ _) _⟩
end
theorem cells4 {w : World} {b : Nat} {c0 c1 c2 c3 : Int} (h : w.heap[b]? = some (Obj.cells #[Value.int IntKind.i64 c0, Value.int IntKind.i64 c1, Value.int IntKind.i64 c2, Value.int IntKind.i64 c3] 41)) :
    w.cell? ⟨b, 0, none⟩ = some (.int .i64 c0) ∧ w.cell? ⟨b, 1, none⟩ = some (.int .i64 c1) ∧ w.cell? ⟨b, 2, none⟩ = some (.int .i64 c2) ∧ w.cell? ⟨b, 3, none⟩ = some (.int .i64 c3) := by
  refine ⟨?_, ?_, ?_, ?_⟩ <;> simp [World.cell?, h]
theorem keep8 {B1 B2 : Nat} {c0 c1 c2 c3 d0 d1 d2 d3 : Int} {W0 w w' : World} (h : w.cell? ⟨B1, 0, none⟩ = some (.int .i64 c0) ∧ w.cell? ⟨B1, 1, none⟩ = some (.int .i64 c1) ∧ w.cell? ⟨B1, 2, none⟩ = some (.int .i64 c2) ∧ w.cell? ⟨B1, 3, none⟩ = some (.int .i64 c3) ∧ w.cell? ⟨B2, 0, none⟩ = some (.int .i64 d0) ∧ w.cell? ⟨B2, 1, none⟩ = some (.int .i64 d1) ∧ w.cell? ⟨B2, 2, none⟩ = some (.int .i64 d2) ∧ w.cell? ⟨B2, 3, none⟩ = some (.int .i64 d3) ∧ Below W0.heap.size W0 w ∧ B2 < w.heap.size) (bel : Below w.heap.size w w') (h12 : B1 < B2) :
    w'.cell? ⟨B1, 0, none⟩ = some (.int .i64 c0) ∧ w'.cell? ⟨B1, 1, none⟩ = some (.int .i64 c1) ∧ w'.cell? ⟨B1, 2, none⟩ = some (.int .i64 c2) ∧ w'.cell? ⟨B1, 3, none⟩ = some (.int .i64 c3) ∧ w'.cell? ⟨B2, 0, none⟩ = some (.int .i64 d0) ∧ w'.cell? ⟨B2, 1, none⟩ = some (.int .i64 d1) ∧ w'.cell? ⟨B2, 2, none⟩ = some (.int .i64 d2) ∧ w'.cell? ⟨B2, 3, none⟩ = some (.int .i64 d3) ∧ Below W0.heap.size W0 w' ∧ B2 < w'.heap.size := by
  obtain ⟨g0, g1, g2, g3, k0, k1, k2, k3, b, z⟩ := h
  refine ⟨?_, ?_, ?_, ?_, ?_, ?_, ?_, ?_, b.trans (bel.mono b.size), Nat.lt_of_lt_of_le z bel.size⟩
  · rw [bel.cell (Nat.lt_trans h12 z)]; exact g0
  · rw [bel.cell (Nat.lt_trans h12 z)]; exact g1
  · rw [bel.cell (Nat.lt_trans h12 z)]; exact g2
  · rw [bel.cell (Nat.lt_trans h12 z)]; exact g3
  · rw [bel.cell z]; exact k0
  · rw [bel.cell z]; exact k1
  · rw [bel.cell z]; exact k2
  · rw [bel.cell z]; exact k3
theorem keep_below {B1 B2 : Nat} {c0 c1 c2 c3 d0 d1 d2 d3 : Int} {W0 w : World} (h : w.cell? ⟨B1, 0, none⟩ = some (.int .i64 c0) ∧ w.cell? ⟨B1, 1, none⟩ = some (.int .i64 c1) ∧ w.cell? ⟨B1, 2, none⟩ = some (.int .i64 c2) ∧ w.cell? ⟨B1, 3, none⟩ = some (.int .i64 c3) ∧ w.cell? ⟨B2, 0, none⟩ = some (.int .i64 d0) ∧ w.cell? ⟨B2, 1, none⟩ = some (.int .i64 d1) ∧ w.cell? ⟨B2, 2, none⟩ = some (.int .i64 d2) ∧ w.cell? ⟨B2, 3, none⟩ = some (.int .i64 d3) ∧ Below W0.heap.size W0 w ∧ B2 < w.heap.size) : Below W0.heap.size W0 w := h.2.2.2.2.2.2.2.2.1
theorem L4_open (n : Nat) : ∃ c0 c1 c2 c3 : Int, L4 n = .agg #[.int .i64 c0, .int .i64 c1, .int .i64 c2, .int .i64 c3] := ⟨_, _, _, _, rfl⟩
theorem wide_at {x y n : Nat} {v : Value} (hn : x * y = n) (hv : L4 n = v) (hx : x ≤ 9223372036854775807) (hy : y ≤ 9223372036854775807) (w : World) :
    Calls Try.prog 16 #[.int .i64 (x : Int), .int .i64 (y : Int)] w fun re w' => re = .returned v ∧ Below w.heap.size w w' := by subst hv; subst hn; exact wide_calls hx hy w
theorem plus_at {n m q : Nat} {u v : Value} (hu : L4 n = u) (hq : n + m = q) (hv : L4 q = v) (hn : n < 85070591730234615865843651857942052864) (hm : m ≤ 9223372036854775807) (w : World) :
    Calls Try.prog 17 #[u, .int .i64 (m : Int)] w fun re w' => re = .returned v ∧ Below w.heap.size w w' := by subst hu; subst hv; subst hq; exact plus_calls hn hm w
theorem below_at {n m : Nat} {u v : Value} {b : Bool} (hu : L4 n = u) (hv : L4 m = v) (hb : decide (n < m) = b) (w : World) :
    Calls Try.prog 18 #[u, v] w fun re w' => re = .returned (.bool b) ∧ Below w.heap.size w w' := by subst hu; subst hv; subst hb; exact below_calls n m w
section
variable {P W S : Nat} (hp : P ≤ 9223372036854775807) (hs : S ≤ 9223372036854775807) (hw : W ≤ 9223372036854775807) (h1 : 1 ≤ W)
include hp hs hw h1
set_option maxHeartbeats 8000000 in
set_option maxRecDepth 100000 in
theorem bounds_B (hq : 9223372036854775807 < P * S / W) (w : World) : Calls Try.prog 6 #[.int .i64 (P : Int), .int .i64 (W : Int), .int .i64 (S : Int)] w fun re w' => re = .returned (.bool true) ∧ Below w.heap.size w w' := by
  obtain ⟨k, hk⟩ := fixedOk
  obtain ⟨k2, hk2⟩ := Ev.rounds (share_ev (p := (P : Int)) (s := (S : Int)) (w := (W : Int)) (by omega) (by omega) (by omega))
  have hv : shareV (P : Int) (W : Int) (S : Int) = (0, 28) := by
    unfold shareV shareN
    rw [if_neg (by omega)]
    exact if_pos hq
  rw [hv] at hk2
  have hq2 : 9223372036854775808 * W ≤ P * S := by
    rw [← Nat.le_div_iff_mul_le (by omega)]; omega
  obtain ⟨c0, c1, c2, c3, hc⟩ := L4_open (P * S)
  obtain ⟨d0, d1, d2, d3, hd⟩ := L4_open (9223372036854775807 * W)
  obtain ⟨e0, e1, e2, e3, he⟩ := L4_open (9223372036854775807 * W + W)
  have t1 : ¬ ((P : Int) < 0) := by omega
  have t2 : ¬ ((S : Int) < 0) := by omega
  have t3 : ¬ ((W : Int) < 1) := by omega
  have nb : decide (P * S < 9223372036854775807 * W + W) = false := decide_eq_false (by omega)
  have mb : 9223372036854775807 * W < 85070591730234615865843651857942052864 := by omega
  go_enter Try.func6, Try.ntmps6
  go_wp2_with (fail)
  refine (berthlaw02_fixedShare.calls k true _ hk).mono ?_
  rintro e w' ⟨rfl, nd, rfl⟩
  go_wp2_with (fail)
  refine (quant_Share.calls k2 P W S 0 28 _ hk2).mono ?_
  rintro e w' ⟨rfl, nd2, rfl⟩
  go_wp2_with (fail)
  generalize hw0 : w.drewN (nd + nd2) = w0
  refine (wide_at rfl hc hp hs _).mono ?_
  rintro e w1 ⟨rfl, bel1⟩
  go_wp2_with (fail)
  have z1 : (w1.alloc (Obj.cells #[Value.int IntKind.i64 c0, Value.int IntKind.i64 c1, Value.int IntKind.i64 c2, Value.int IntKind.i64 c3] 41)).heap.size = w1.heap.size + 1 := World.size_alloc _ _
  have f1 := heap_alloc_new w1 (Obj.cells #[Value.int IntKind.i64 c0, Value.int IntKind.i64 c1, Value.int IntKind.i64 c2, Value.int IntKind.i64 c3] 41)
  have b1 : Below w.heap.size w (w1.alloc (Obj.cells #[Value.int IntKind.i64 c0, Value.int IntKind.i64 c1, Value.int IntKind.i64 c2, Value.int IntKind.i64 c3] 41)) := by
    have b0 : Below w.heap.size w w0 := hw0 ▸ pw_below_drewN (Below.refl _ _) _
    exact below_alloc (b0.trans (bel1.mono b0.size)) _
  have sz : w.heap.size ≤ w1.heap.size := by
    have b0 : Below w.heap.size w w0 := hw0 ▸ pw_below_drewN (Below.refl _ _) _
    exact Nat.le_trans b0.size bel1.size
  generalize w1.alloc (Obj.cells #[Value.int IntKind.i64 c0, Value.int IntKind.i64 c1, Value.int IntKind.i64 c2, Value.int IntKind.i64 c3] 41) = wa at *
  refine (wide_at (x := 9223372036854775807) rfl hd (by decide) hw _).mono ?_
  rintro e w2 ⟨rfl, bel2⟩
  go_wp2_with (fail)
  refine (plus_at hd rfl he mb hw _).mono ?_
  rintro e w3 ⟨rfl, bel3⟩
  have f3 : w3.heap[w1.heap.size]? = some (Obj.cells #[Value.int IntKind.i64 c0, Value.int IntKind.i64 c1, Value.int IntKind.i64 c2, Value.int IntKind.i64 c3] 41) := by
    rw [bel3.block _ (by have := bel2.size; omega), bel2.block _ (by omega)]; exact f1
  have s3 : w1.heap.size < w3.heap.size := by have := bel2.size; have := bel3.size; omega
  have b3 : Below w.heap.size w (w3.alloc (Obj.cells #[Value.int IntKind.i64 e0, Value.int IntKind.i64 e1, Value.int IntKind.i64 e2, Value.int IntKind.i64 e3] 41)) := 
    below_alloc ((b1.trans (bel2.mono (by omega))).trans (bel3.mono (by have := bel2.size; omega))) _
  obtain ⟨g0, g1, g2, g3⟩ := cells4 ((heap_alloc_old w3 (Obj.cells #[Value.int IntKind.i64 e0, Value.int IntKind.i64 e1, Value.int IntKind.i64 e2, Value.int IntKind.i64 e3] 41) s3).trans f3)
  clear f3 f1 bel1 bel2 bel3 b1 z1
  go_wp2_with (fail)
  refine (below_at hc he nb _).mono ?_
  rintro e w4 ⟨rfl, bel4⟩
  go_wp2_with (fail)
  go_ret
  exact ⟨rfl, b3.trans (bel4.mono (by have := b3.size; omega))⟩
set_option maxHeartbeats 8000000 in
set_option maxRecDepth 100000 in
theorem bounds_C {Q : Nat} (hQ : P * S / W = Q) (hq : Q ≤ 9223372036854775807) (w : World) : Calls Try.prog 6 #[.int .i64 (P : Int), .int .i64 (W : Int), .int .i64 (S : Int)] w fun re w' => re = .returned (.bool true) ∧ Below w.heap.size w w' := by
  obtain ⟨k, hk⟩ := fixedOk
  obtain ⟨k2, hk2⟩ := Ev.rounds (share_ev (p := (P : Int)) (s := (S : Int)) (w := (W : Int)) (by omega) (by omega) (by omega))
  have hv : shareV (P : Int) (W : Int) (S : Int) = ((Q : Int), 0) := by
    unfold shareV shareN
    rw [if_neg (by omega)]
    show (if 9223372036854775807 < P * S / W then ((0 : Int), (28 : Int)) else (((P * S / W : Nat) : Int), 0)) = _
    rw [if_neg (by omega), hQ]
  rw [hv] at hk2
  have hq2 : Q * W ≤ P * S := by rw [← hQ]; exact Nat.div_mul_le_self _ _
  have hq3 : P * S < Q * W + W := by
    have := Nat.lt_succ_self (P * S / W)
    rw [Nat.div_lt_iff_lt_mul (by omega), hQ, Nat.succ_mul] at this
    exact this
  have hq4 : Q * W ≤ 9223372036854775807 * W := Nat.mul_le_mul hq (Nat.le_refl _)
  obtain ⟨c0, c1, c2, c3, hc⟩ := L4_open (P * S)
  obtain ⟨d0, d1, d2, d3, hd⟩ := L4_open (Q * W)
  obtain ⟨e0, e1, e2, e3, he⟩ := L4_open (Q * W + W)
  have t1 : ¬ ((P : Int) < 0) := by omega
  have t2 : ¬ ((S : Int) < 0) := by omega
  have t3 : ¬ ((W : Int) < 1) := by omega
  have t4 : (Q : Int) ≥ 0 := by omega
  have t5 : max (Q : Int) 0 = (Q : Int) := by omega
  have nb : decide (P * S < Q * W) = false := decide_eq_false (by omega)
  have nb2 : decide (P * S < Q * W + W) = true := decide_eq_true hq3
  have mb : Q * W < 85070591730234615865843651857942052864 := by omega
  go_enter Try.func6, Try.ntmps6
  go_wp2_with (fail)
  refine (berthlaw02_fixedShare.calls k true _ hk).mono ?_
  rintro e w' ⟨rfl, nd, rfl⟩
  go_wp2_with (fail)
  refine (quant_Share.calls k2 P W S Q 0 _ hk2).mono ?_
  rintro e w' ⟨rfl, nd2, rfl⟩
  go_wp2_with (fail)
  generalize hw0 : w.drewN (nd + nd2) = w0
  refine (wide_at rfl hc hp hs _).mono ?_
  rintro e w1 ⟨rfl, bel1⟩
  go_wp2_with (fail)
  have z1 : (w1.alloc (Obj.cells #[Value.int IntKind.i64 c0, Value.int IntKind.i64 c1, Value.int IntKind.i64 c2, Value.int IntKind.i64 c3] 41)).heap.size = w1.heap.size + 1 := World.size_alloc _ _
  have f1 := heap_alloc_new w1 (Obj.cells #[Value.int IntKind.i64 c0, Value.int IntKind.i64 c1, Value.int IntKind.i64 c2, Value.int IntKind.i64 c3] 41)
  have b0 : Below w.heap.size w w0 := hw0 ▸ pw_below_drewN (Below.refl _ _) _
  have b1 : Below w.heap.size w (w1.alloc (Obj.cells #[Value.int IntKind.i64 c0, Value.int IntKind.i64 c1, Value.int IntKind.i64 c2, Value.int IntKind.i64 c3] 41)) := below_alloc (b0.trans (bel1.mono b0.size)) _
  have sz : w.heap.size ≤ w1.heap.size := Nat.le_trans b0.size bel1.size
  generalize w1.alloc (Obj.cells #[Value.int IntKind.i64 c0, Value.int IntKind.i64 c1, Value.int IntKind.i64 c2, Value.int IntKind.i64 c3] 41) = wa at *
  refine (wide_at rfl hd hq hw _).mono ?_
  rintro e w2 ⟨rfl, bel2⟩
  have f2 : w2.heap[w1.heap.size]? = some (Obj.cells #[Value.int IntKind.i64 c0, Value.int IntKind.i64 c1, Value.int IntKind.i64 c2, Value.int IntKind.i64 c3] 41) := by rw [bel2.block _ (by omega)]; exact f1
  have s2 : w1.heap.size < w2.heap.size := by have := bel2.size; omega
  have b2 : Below w.heap.size w (w2.alloc (Obj.cells #[Value.int IntKind.i64 d0, Value.int IntKind.i64 d1, Value.int IntKind.i64 d2, Value.int IntKind.i64 d3] 41)) := below_alloc (b1.trans (bel2.mono (by omega))) _
  have z2 : w2.heap.size < (w2.alloc (Obj.cells #[Value.int IntKind.i64 d0, Value.int IntKind.i64 d1, Value.int IntKind.i64 d2, Value.int IntKind.i64 d3] 41)).heap.size := by rw [World.size_alloc]; omega
  obtain ⟨g0, g1, g2, g3⟩ := cells4 ((heap_alloc_old w2 (Obj.cells #[Value.int IntKind.i64 d0, Value.int IntKind.i64 d1, Value.int IntKind.i64 d2, Value.int IntKind.i64 d3] 41) s2).trans f2)
  obtain ⟨k0, k1, k2', k3⟩ := cells4 (heap_alloc_new w2 (Obj.cells #[Value.int IntKind.i64 d0, Value.int IntKind.i64 d1, Value.int IntKind.i64 d2, Value.int IntKind.i64 d3] 41))
  clear f2 f1 bel1 bel2 b1 z1 b0
  go_wp2_with (fail)
  generalize w2.alloc (Obj.cells #[Value.int IntKind.i64 d0, Value.int IntKind.i64 d1, Value.int IntKind.i64 d2, Value.int IntKind.i64 d3] 41) = wb at *
  generalize hB1 : w1.heap.size = B1 at *
  generalize hB2 : w2.heap.size = B2 at *
  go_region_held3 (fun w' => w'.cell? ⟨B1, 0, none⟩ = some (.int .i64 c0) ∧ w'.cell? ⟨B1, 1, none⟩ = some (.int .i64 c1) ∧ w'.cell? ⟨B1, 2, none⟩ = some (.int .i64 c2) ∧ w'.cell? ⟨B1, 3, none⟩ = some (.int .i64 c3) ∧ w'.cell? ⟨B2, 0, none⟩ = some (.int .i64 d0) ∧ w'.cell? ⟨B2, 1, none⟩ = some (.int .i64 d1) ∧ w'.cell? ⟨B2, 2, none⟩ = some (.int .i64 d2) ∧ w'.cell? ⟨B2, 3, none⟩ = some (.int .i64 d3) ∧ Below w.heap.size w w' ∧ B2 < w'.heap.size)
    (first | exact ⟨g0, g1, g2, g3, k0, k1, k2', k3, b2.drew, z2⟩ | exact keep8 (by assumption) bel6 s2 | exact keep8 (by assumption) bel5 s2 | exact keep8 (by assumption) bel4 s2)
    (first | (go_at_call 18; (with_reducible refine (below_at hc hd nb _).mono ?_); rintro e w4 ⟨rfl, bel4⟩) | (go_at_call 17; (with_reducible refine (plus_at hd rfl he mb hw _).mono ?_); rintro e w5 ⟨rfl, bel5⟩) | (go_at_call 18; (with_reducible refine (below_at hc he nb2 _).mono ?_); rintro e w6 ⟨rfl, bel6⟩))
  go_wp2
  go_ret
  exact ⟨rfl, keep_below (B1 := B1) (B2 := B2) (c0 := c0) (c1 := c1) (c2 := c2) (c3 := c3) (d0 := d0) (d1 := d1) (d2 := d2) (d3 := d3) (by assumption)⟩
end
theorem bounds_calls {p wh s : Int} (hp : p ≤ 9223372036854775807) (hs : s ≤ 9223372036854775807) (hw : wh ≤ 9223372036854775807) (w : World) :
    Calls Try.prog 6 #[.int .i64 p, .int .i64 wh, .int .i64 s] w fun re w' => re = .returned (.bool true) ∧ Below w.heap.size w w' := by
  by_cases h1 : p < 0
  · exact bounds_A1 hp hs hw h1 w
  by_cases h2 : s < 0
  · exact bounds_A2 hp hs hw h1 h2 w
  by_cases h3 : wh < 1
  · exact bounds_A3 hp hs hw h1 h2 h3 w
  obtain ⟨P, rfl⟩ := Int.eq_ofNat_of_zero_le (by omega : 0 ≤ p)
  obtain ⟨W, rfl⟩ := Int.eq_ofNat_of_zero_le (by omega : 0 ≤ wh)
  obtain ⟨S, rfl⟩ := Int.eq_ofNat_of_zero_le (by omega : 0 ≤ s)
  by_cases h4 : 9223372036854775807 < P * S / W
  · exact bounds_B (by omega) (by omega) (by omega) (by omega) h4 w
  · exact bounds_C (by omega) (by omega) (by omega) (by omega) rfl (by omega) w
end Go.Proofs.Ytbibnendaddbhaa.Q
