-- Written by a program of this session (ptx): walks of the translated functions, one after the other. Not trusted: Lean checks it.
import Derived.Test.YtbibnendaddbhaaAllx0
import Derived.Test.YtbibnendaddbhaaAllx5
namespace Go.Proofs.Ytbibnendaddbhaa.All
open Go.RowKit Go.Proofs.YtbibnendaddbhaaW.PrintWords Go.Proofs.YtbibnendaddbhaaW.PrintLast Go.Proofs.YtbibnendaddbhaaW.PrintMore
attribute [local go_sem] max2_int min2_int max_two min_two max_three min_three max_four min_four   -- for this text's walks alone
attribute [local go_sem] Go.Proofs.YtbibnendaddbhaaX.binOp_leq Go.Proofs.YtbibnendaddbhaaX.binOp_geq Go.Proofs.YtbibnendaddbhaaX.binOp_gtr
set_option linter.unusedVariables false
set_option linter.unusedSimpArgs false

/-! ### quant_Share: function 14 -/
def quant_Share.j0 : Nat → Int → Int → Int → Bool → Option (Int × Int)
  | 0, _, _, _, _ => none
  | k + 1, x0, x1, x2, x21 => if x21 = true then (some (0, 26)) else ((bits_Mul64.f (IntKind.u64.wrap (x0)) (IntKind.u64.wrap (x2))).bind fun bt165 => (if bt165.1 ≥ (IntKind.u64.wrap (x1)) then (some (0, 28)) else ((bits_Div64.f k bt165.1 bt165.2 (IntKind.u64.wrap (x1))).bind fun bt167 => (if bt167.1 > 9223372036854775807 then (some (0, 28)) else (some (wrap64 (bt167.1), 0))))))
def quant_Share.f (k : Nat) (a0 : Int) (a1 : Int) (a2 : Int) : Option (Int × Int) := if a0 < 0 then (quant_Share.j0 k a0 a1 a2 true) else (if a2 < 0 then (quant_Share.j0 k a0 a1 a2 true) else (quant_Share.j0 k a0 a1 a2 (decide (a1 < 1))))
theorem quant_Share.mono_l : ∀ k, (∀ y0 y1 y2 y3, LeO (quant_Share.j0 k y0 y1 y2 y3) (quant_Share.j0 (k + 1) y0 y1 y2 y3))
  | 0 => fun _ _ _ _ r h => by simp [quant_Share.j0] at h
  | k + 1 => by
    have ih0 := quant_Share.mono_l k
    · intro y0 y1 y2 y3
      unfold quant_Share.j0
      repeat' first
      | (with_reducible exact ih0 _ _ _ _)
      | (with_reducible exact bits_Div64.mono _ _ _ _)
      | (with_reducible exact LeO.refl _)
      | (with_reducible exact LeO.none _)
      | (with_reducible refine LeO.ite ?_ ?_)
      | (with_reducible refine LeO.bind ?_ (fun _ => ?_))
      | exact ih0 _ _ _ _
      | exact bits_Div64.mono _ _ _ _
      | exact LeO.none _
      | refine LeO.ite ?_ ?_
      | refine LeO.bind ?_ (fun _ => ?_)
theorem quant_Share.mono : ∀ a0 a1 a2 k, LeO (quant_Share.f k a0 a1 a2) (quant_Share.f (k + 1) a0 a1 a2) := by
  intro a0 a1 a2 k
  have ih0 := quant_Share.mono_l k
  unfold quant_Share.f
  repeat' first
      | (with_reducible exact ih0 _ _ _ _)
      | (with_reducible exact bits_Div64.mono _ _ _ _)
      | (with_reducible exact LeO.refl _)
      | (with_reducible exact LeO.none _)
      | (with_reducible refine LeO.ite ?_ ?_)
      | (with_reducible refine LeO.bind ?_ (fun _ => ?_))
      | exact ih0 _ _ _ _
      | exact bits_Div64.mono _ _ _ _
      | exact LeO.none _
      | refine LeO.ite ?_ ?_
      | refine LeO.bind ?_ (fun _ => ?_)
set_option maxHeartbeats 8000000 in
set_option maxRecDepth 100000 in
theorem quant_Share.calls (k : Nat) (a0 : Int) (a1 : Int) (a2 : Int) (r1 : Int) (r2 : Int) (w : World) (h : quant_Share.f k a0 a1 a2 = some (r1, r2)) :
    Calls Try.prog 14 #[.int .i64 a0, .int .i64 a1, .int .i64 a2] w fun e w' => e = .returned (.tuple #[.int .i64 r1, .int .i64 r2]) ∧ Drawn0 w w' := by
  have H : (if a0 < 0 then (quant_Share.j0 k a0 a1 a2 true) else (if a2 < 0 then (quant_Share.j0 k a0 a1 a2 true) else (quant_Share.j0 k a0 a1 a2 (decide (a1 < 1))))) = some (r1, r2) := h
  clear h
  have HC4 := Aside0.mk H
  clear H
  go_enter Try.func14, Try.ntmps14
  go_upto_region 1 with (fail)
  go_cut [21] (fun v21 wc => ∃ (kq : Nat) (x21_3 : Bool), v21 = .bool x21_3 ∧ Aside0 (quant_Share.j0 kq a0 a1 a2 x21_3 = some (r1, r2)) ∧ Aside0 (kq ≤ k) ∧ Drawn0 w wc)
  case first =>
    have H := HC4.out
    clear HC4
    by_cases c5 : a0 < 0
    · rw [if_pos c5] at H
      have c5b0 : decide (a0 < 0) = true := decide_eq_true c5
      clear c5
      (first | rw [c5b0] | (simp only [i64_w, i32_w]; rw [c5b0]) | skip)
      have H' := Aside0.mk H
      clear H
      go_wp2
      go_meet
      case rel => exact ⟨_, (true), (by first | rfl | (simp; done) | (simp [*]; done) | (simp only [i64_w]; done) | (simp [i64_w, Int.tdiv_eq_ediv_of_nonneg]; done)), H', ⟨by first | omega | exact Nat.le_refl _⟩, by repeat (first | exact Drawn0.refl _ | apply Drawn0.step)⟩
    · rw [if_neg c5] at H
      have c5b0 : decide (a0 < 0) = false := decide_eq_false c5
      clear c5
      (first | rw [c5b0] | (simp only [i64_w, i32_w]; rw [c5b0]) | skip)
      by_cases c6 : a2 < 0
      · rw [if_pos c6] at H
        have c6b0 : decide (a2 < 0) = true := decide_eq_true c6
        clear c6
        have H' := Aside0.mk H
        clear H
        go_wp2
        go_meet
        case rel => exact ⟨_, (true), (by first | rfl | (simp; done) | (simp [*]; done) | (simp only [i64_w]; done) | (simp [i64_w, Int.tdiv_eq_ediv_of_nonneg]; done)), H', ⟨by first | omega | exact Nat.le_refl _⟩, by repeat (first | exact Drawn0.refl _ | apply Drawn0.step)⟩
      · rw [if_neg c6] at H
        have c6b0 : decide (a2 < 0) = false := decide_eq_false c6
        clear c6
        have H' := Aside0.mk H
        clear H
        go_wp2
        go_meet
        case rel => exact ⟨_, (decide (a1 < 1)), (by first | rfl | (simp; done) | (simp [*]; done) | (simp only [i64_w]; done) | (simp [i64_w, Int.tdiv_eq_ediv_of_nonneg]; done)), H', ⟨by first | omega | exact Nat.le_refl _⟩, by repeat (first | exact Drawn0.refl _ | apply Drawn0.step)⟩
  case rest =>
    clear HC4
    try clear c1
    try clear p2
    try clear c5
    try clear c5b0
    try clear c6
    try clear c6b0
    obtain ⟨kq, x21_3, rfl, HA, HJ3, ⟨mc3, rfl⟩⟩ := hcut
    cases kq with
    | zero => exact absurd HA.out (by simp [quant_Share.j0])
    | succ kj3 =>
      have H := HA.out
      clear HA
      simp only [quant_Share.j0] at H
      by_cases c7 : x21_3 = true
      · subst c7
        have H1 : (some (0, 26)) = some (r1, r2) := by rw [if_pos rfl] at H; exact H
        clear H
        have H := H1
        clear H1
        simp only [Option.some.injEq, Prod.mk.injEq] at H
        obtain ⟨rfl, rfl⟩ := H
        go_wp2
        go_ret2
        exact ⟨by first | rfl | (simp; done) | (simp [*]; done) | (simp only [i64_w]; done) | (simp [i64_w, Int.tdiv_eq_ediv_of_nonneg]; done), by repeat (first | exact Drawn0.refl _ | apply Drawn0.step)⟩
      · replace c7 := Bool.eq_false_iff.mpr c7
        subst c7
        have H1 : ((bits_Mul64.f (IntKind.u64.wrap (a0)) (IntKind.u64.wrap (a2))).bind fun bt165 => (if bt165.1 ≥ (IntKind.u64.wrap (a1)) then (some (0, 28)) else ((bits_Div64.f kj3 bt165.1 bt165.2 (IntKind.u64.wrap (a1))).bind fun bt167 => (if bt167.1 > 9223372036854775807 then (some (0, 28)) else (some (wrap64 (bt167.1), 0)))))) = some (r1, r2) := by rw [if_neg (show ¬ (false = true) by decide)] at H; exact H
        clear H
        have H := H1
        clear H1
        replace H := Option.bind_eq_some_iff.mp H
        obtain ⟨⟨t165, t166⟩, A80, H⟩ := H
        replace H : (if t165 ≥ (IntKind.u64.wrap (a1)) then (some (0, 28)) else ((bits_Div64.f kj3 t165 t166 (IntKind.u64.wrap (a1))).bind fun bt167 => (if bt167.1 > 9223372036854775807 then (some (0, 28)) else (some (wrap64 (bt167.1), 0))))) = some (r1, r2) := H
        have A8 := Aside0.mk A80
        clear A80
        by_cases c9 : t165 ≥ (IntKind.u64.wrap (a1))
        · rw [if_pos c9] at H
          have c9b0 : decide ((IntKind.u64.wrap (a1)) ≤ t165) = true := decide_eq_true c9
          clear c9
          simp only [Option.some.injEq, Prod.mk.injEq] at H
          obtain ⟨rfl, rfl⟩ := H
          go_wp2_with (first | ((with_reducible refine gate_callee (f := 26) rfl ?_); refine goesL_ (some 27) rfl rfl Try.func26 (by kernel_rfl) rfl #[.int .u64 (IntKind.u64.wrap (a0)), .int .u64 (IntKind.u64.wrap (a2))] rfl (by (try simp only [List.map_toArray, List.map_cons, List.map_nil]); first | done | rfl | (simp only [List.length_drop, List.length_take]; rfl)) ?_; (with_reducible refine (bits_Mul64.calls (IntKind.u64.wrap (a0)) (IntKind.u64.wrap (a2)) t165 t166 _ A8.out).mono ?_); rintro e w' ⟨rfl, ⟨nd, rfl⟩⟩; refine ⟨_, rfl, ?_⟩))
          go_ret2
          exact ⟨by first | rfl | (simp; done) | (simp [*]; done) | (simp only [i64_w]; done) | (simp [i64_w, Int.tdiv_eq_ediv_of_nonneg]; done), by repeat (first | exact Drawn0.refl _ | apply Drawn0.step)⟩
        · rw [if_neg c9] at H
          have c9b0 : decide ((IntKind.u64.wrap (a1)) ≤ t165) = false := decide_eq_false c9
          clear c9
          replace H := Option.bind_eq_some_iff.mp H
          obtain ⟨⟨t167, t168⟩, A100, H⟩ := H
          replace H : (if t167 > 9223372036854775807 then (some (0, 28)) else (some (wrap64 (t167), 0))) = some (r1, r2) := H
          have A10 := Aside0.mk A100
          clear A100
          by_cases c11 : t167 > 9223372036854775807
          · rw [if_pos c11] at H
            have c11b0 : decide (9223372036854775807 < t167) = true := decide_eq_true c11
            clear c11
            simp only [Option.some.injEq, Prod.mk.injEq] at H
            obtain ⟨rfl, rfl⟩ := H
            go_wp2_with (first | ((with_reducible refine gate_callee (f := 26) rfl ?_); refine goesL_ (some 27) rfl rfl Try.func26 (by kernel_rfl) rfl #[.int .u64 (IntKind.u64.wrap (a0)), .int .u64 (IntKind.u64.wrap (a2))] rfl (by (try simp only [List.map_toArray, List.map_cons, List.map_nil]); first | done | rfl | (simp only [List.length_drop, List.length_take]; rfl)) ?_; (with_reducible refine (bits_Mul64.calls (IntKind.u64.wrap (a0)) (IntKind.u64.wrap (a2)) t165 t166 _ A8.out).mono ?_); rintro e w' ⟨rfl, ⟨nd, rfl⟩⟩; refine ⟨_, rfl, ?_⟩) | ((with_reducible refine gate_callee (f := 27) rfl ?_); refine goesL_ (some 39) rfl rfl Try.func27 (by kernel_rfl) rfl #[.int .u64 t165, .int .u64 t166, .int .u64 (IntKind.u64.wrap (a1))] rfl (by (try simp only [List.map_toArray, List.map_cons, List.map_nil]); first | done | rfl | (simp only [List.length_drop, List.length_take]; rfl)) ?_; (with_reducible refine (bits_Div64.calls kj3 t165 t166 (IntKind.u64.wrap (a1)) t167 t168 _ A10.out).mono ?_); rintro e w' ⟨rfl, ⟨nd, rfl⟩⟩; refine ⟨_, rfl, ?_⟩))
            go_ret2
            exact ⟨by first | rfl | (simp; done) | (simp [*]; done) | (simp only [i64_w]; done) | (simp [i64_w, Int.tdiv_eq_ediv_of_nonneg]; done), by repeat (first | exact Drawn0.refl _ | apply Drawn0.step)⟩
          · rw [if_neg c11] at H
            have c11b0 : decide (9223372036854775807 < t167) = false := decide_eq_false c11
            clear c11
            simp only [Option.some.injEq, Prod.mk.injEq] at H
            obtain ⟨rfl, rfl⟩ := H
            go_wp2_with (first | ((with_reducible refine gate_callee (f := 26) rfl ?_); refine goesL_ (some 27) rfl rfl Try.func26 (by kernel_rfl) rfl #[.int .u64 (IntKind.u64.wrap (a0)), .int .u64 (IntKind.u64.wrap (a2))] rfl (by (try simp only [List.map_toArray, List.map_cons, List.map_nil]); first | done | rfl | (simp only [List.length_drop, List.length_take]; rfl)) ?_; (with_reducible refine (bits_Mul64.calls (IntKind.u64.wrap (a0)) (IntKind.u64.wrap (a2)) t165 t166 _ A8.out).mono ?_); rintro e w' ⟨rfl, ⟨nd, rfl⟩⟩; refine ⟨_, rfl, ?_⟩) | ((with_reducible refine gate_callee (f := 27) rfl ?_); refine goesL_ (some 39) rfl rfl Try.func27 (by kernel_rfl) rfl #[.int .u64 t165, .int .u64 t166, .int .u64 (IntKind.u64.wrap (a1))] rfl (by (try simp only [List.map_toArray, List.map_cons, List.map_nil]); first | done | rfl | (simp only [List.length_drop, List.length_take]; rfl)) ?_; (with_reducible refine (bits_Div64.calls kj3 t165 t166 (IntKind.u64.wrap (a1)) t167 t168 _ A10.out).mono ?_); rintro e w' ⟨rfl, ⟨nd, rfl⟩⟩; refine ⟨_, rfl, ?_⟩))
            go_ret2
            exact ⟨by first | rfl | (simp; done) | (simp [*]; done) | (simp only [i64_w]; done) | (simp [i64_w, Int.tdiv_eq_ediv_of_nonneg]; done), by repeat (first | exact Drawn0.refl _ | apply Drawn0.step)⟩

/-! ### berthlaw02_fixedShare: function 13 -/
def berthlaw02_fixedShare.f (k : Nat)  : Option (Bool) := (quant_Share.f k 1 3 100).bind fun bt169 => (if bt169.1 = 33 then (some (bt169.2 == 0)) else (some false))
theorem berthlaw02_fixedShare.mono : ∀ k, LeO (berthlaw02_fixedShare.f k ) (berthlaw02_fixedShare.f (k + 1) ) := by
  intro  k
  unfold berthlaw02_fixedShare.f
  repeat' first
      | (with_reducible exact quant_Share.mono _ _ _ _)
      | (with_reducible exact LeO.refl _)
      | (with_reducible exact LeO.none _)
      | (with_reducible refine LeO.ite ?_ ?_)
      | (with_reducible refine LeO.bind ?_ (fun _ => ?_))
      | exact quant_Share.mono _ _ _ _
      | exact LeO.none _
      | refine LeO.ite ?_ ?_
      | refine LeO.bind ?_ (fun _ => ?_)
set_option maxHeartbeats 8000000 in
set_option maxRecDepth 100000 in
theorem berthlaw02_fixedShare.calls (k : Nat)  (r : Bool) (w : World) (h : berthlaw02_fixedShare.f k  = some r) :
    Calls Try.prog 13 #[] w fun e w' => e = .returned (.bool r) ∧ Drawn0 w w' := by
  have H : ((quant_Share.f k 1 3 100).bind fun bt169 => (if bt169.1 = 33 then (some (bt169.2 == 0)) else (some false))) = some r := h
  clear h
  replace H := Option.bind_eq_some_iff.mp H
  obtain ⟨⟨t169, t170⟩, A10, H⟩ := H
  replace H : (if t169 = 33 then (some (t170 == 0)) else (some false)) = some r := H
  have A1 := Aside0.mk A10
  clear A10
  by_cases c2 : t169 = 33
  · rw [if_pos c2] at H
    have c2b0 : (t169 == 33) = true := beq_iff_eq.mpr c2
    have c2b1 : (t169 != 33) = false := bne_eq_false_iff_eq.mpr c2
    clear c2
    obtain rfl := Option.some.inj H
    go_enter Try.func13, Try.ntmps13
    go_wp2_with (first | ((with_reducible refine gate_callee (f := 14) rfl ?_); refine goesL_ (some 4) rfl rfl Try.func14 (by kernel_rfl) rfl #[.int .i64 1, .int .i64 3, .int .i64 100] rfl (by (try simp only [List.map_toArray, List.map_cons, List.map_nil]); first | done | rfl | (simp only [List.length_drop, List.length_take]; rfl)) ?_; (with_reducible refine (quant_Share.calls k 1 3 100 t169 t170 _ A1.out).mono ?_); rintro e w' ⟨rfl, ⟨nd, rfl⟩⟩; refine ⟨_, rfl, ?_⟩))
    go_ret
    exact ⟨by first | rfl | (simp; done) | (simp [*]; done) | (simp only [i64_w]; done) | (simp [i64_w, Int.tdiv_eq_ediv_of_nonneg]; done), by repeat (first | exact Drawn0.refl _ | apply Drawn0.step)⟩
  · rw [if_neg c2] at H
    have c2b0 : (t169 == 33) = false := beq_eq_false_iff_ne.mpr c2
    have c2b1 : (t169 != 33) = true := bne_iff_ne.mpr c2
    obtain rfl := Option.some.inj H
    go_enter Try.func13, Try.ntmps13
    go_wp2_with (first | ((with_reducible refine gate_callee (f := 14) rfl ?_); refine goesL_ (some 4) rfl rfl Try.func14 (by kernel_rfl) rfl #[.int .i64 1, .int .i64 3, .int .i64 100] rfl (by (try simp only [List.map_toArray, List.map_cons, List.map_nil]); first | done | rfl | (simp only [List.length_drop, List.length_take]; rfl)) ?_; (with_reducible refine (quant_Share.calls k 1 3 100 t169 t170 _ A1.out).mono ?_); rintro e w' ⟨rfl, ⟨nd, rfl⟩⟩; refine ⟨_, rfl, ?_⟩))
    go_ret
    exact ⟨by first | rfl | (simp; done) | (simp [*]; done) | (simp only [i64_w]; done) | (simp [i64_w, Int.tdiv_eq_ediv_of_nonneg]; done), by repeat (first | exact Drawn0.refl _ | apply Drawn0.step)⟩

/-! ### berthref02_Share: function 15 -/
mutual
def berthref02_Share.j0 : Nat → Int → Int → Int → Bool → Option (Int × Int)
  | 0, _, _, _, _ => none
  | k + 1, x0, x1, x2, x23 => if x23 = true then (some (0, 26)) else (if x1 = 0 then (none) else (if (wrap64 (Int.tdiv x0 x1)) > 0 then (if (wrap64 (Int.tdiv x0 x1)) = 0 then (none) else (berthref02_Share.j1 k x1 x2 (wrap64 (Int.tdiv x0 x1)) (IntKind.u64.wrap (Int.tmod x0 x1)) (decide (x2 > (wrap64 ((9223372036854775807 : Int) / (wrap64 (Int.tdiv x0 x1)))))))) else (berthref02_Share.j1 k x1 x2 (wrap64 (Int.tdiv x0 x1)) (IntKind.u64.wrap (Int.tmod x0 x1)) false)))
def berthref02_Share.j1 : Nat → Int → Int → Int → Int → Bool → Option (Int × Int)
  | 0, _, _, _, _, _ => none
  | k + 1, x1, x2, x8, x9, x38 => if x38 = true then (some (0, 28)) else (berthref02_Share.l0 k x2 x8 x9 0 0 (IntKind.u64.wrap (x1)) 62)
def berthref02_Share.l0 : Nat → Int → Int → Int → Int → Int → Int → Int → Option (Int × Int)
  | 0, _, _, _, _, _, _, _ => none
  | k + 1, x2, x8, x9, x10, x11, x12, x13 => if x13 ≥ 0 then (if (IntKind.u64.wrap (2 * x11)) ≥ x12 then (berthref02_Share.j3 k x2 x8 x9 (wrap64 ((wrap64 (2 * x10)) + 1)) (IntKind.u64.wrap ((IntKind.u64.wrap (2 * x11)) - x12)) x12 x13) else (berthref02_Share.j3 k x2 x8 x9 (wrap64 (2 * x10)) (IntKind.u64.wrap (2 * x11)) x12 x13)) else (if x10 > (wrap64 (9223372036854775807 - (wrap64 (x8 * x2)))) then (some (0, 28)) else (some (wrap64 ((wrap64 (x8 * x2)) + x10), 0)))
def berthref02_Share.j3 : Nat → Int → Int → Int → Int → Int → Int → Int → Option (Int × Int)
  | 0, _, _, _, _, _, _, _ => none
  | k + 1, x2, x8, x9, x10, x11, x12, x13 => if 0 ≤ x13 then (if (Go.bits .and .i64 (shr .i64 x2 x13) 1) = 1 then (if (IntKind.u64.wrap (x11 + x9)) ≥ x12 then (berthref02_Share.l0 k x2 x8 x9 (wrap64 (x10 + 1)) (IntKind.u64.wrap ((IntKind.u64.wrap (x11 + x9)) - x12)) x12 (wrap64 (x13 - 1))) else (berthref02_Share.l0 k x2 x8 x9 x10 (IntKind.u64.wrap (x11 + x9)) x12 (wrap64 (x13 - 1)))) else (berthref02_Share.l0 k x2 x8 x9 x10 x11 x12 (wrap64 (x13 - 1)))) else (none)
end
def berthref02_Share.f (k : Nat) (a0 : Int) (a1 : Int) (a2 : Int) : Option (Int × Int) := if a0 < 0 then (berthref02_Share.j0 k a0 a1 a2 true) else (if a2 < 0 then (berthref02_Share.j0 k a0 a1 a2 true) else (berthref02_Share.j0 k a0 a1 a2 (decide (a1 < 1))))
theorem berthref02_Share.mono_l : ∀ k, (∀ y0 y1 y2 y3, LeO (berthref02_Share.j0 k y0 y1 y2 y3) (berthref02_Share.j0 (k + 1) y0 y1 y2 y3)) ∧ (∀ y0 y1 y2 y3 y4, LeO (berthref02_Share.j1 k y0 y1 y2 y3 y4) (berthref02_Share.j1 (k + 1) y0 y1 y2 y3 y4)) ∧ (∀ y0 y1 y2 y3 y4 y5 y6, LeO (berthref02_Share.l0 k y0 y1 y2 y3 y4 y5 y6) (berthref02_Share.l0 (k + 1) y0 y1 y2 y3 y4 y5 y6)) ∧ (∀ y0 y1 y2 y3 y4 y5 y6, LeO (berthref02_Share.j3 k y0 y1 y2 y3 y4 y5 y6) (berthref02_Share.j3 (k + 1) y0 y1 y2 y3 y4 y5 y6))
  | 0 => ⟨fun _ _ _ _ r h => by simp [berthref02_Share.j0] at h, fun _ _ _ _ _ r h => by simp [berthref02_Share.j1] at h, fun _ _ _ _ _ _ _ r h => by simp [berthref02_Share.l0] at h, fun _ _ _ _ _ _ _ r h => by simp [berthref02_Share.j3] at h⟩
  | k + 1 => by
    obtain ⟨ih0, ih1, ih2, ih3⟩ := berthref02_Share.mono_l k
    refine ⟨?_, ?_, ?_, ?_⟩
    · intro y0 y1 y2 y3
      unfold berthref02_Share.j0
      repeat' first
      | (with_reducible exact ih0 _ _ _ _)
      | (with_reducible exact ih1 _ _ _ _ _)
      | (with_reducible exact ih2 _ _ _ _ _ _ _)
      | (with_reducible exact ih3 _ _ _ _ _ _ _)
      | (with_reducible exact LeO.refl _)
      | (with_reducible exact LeO.none _)
      | (with_reducible refine LeO.ite ?_ ?_)
      | (with_reducible refine LeO.bind ?_ (fun _ => ?_))
      | exact ih0 _ _ _ _
      | exact ih1 _ _ _ _ _
      | exact ih2 _ _ _ _ _ _ _
      | exact ih3 _ _ _ _ _ _ _
      | exact LeO.none _
      | refine LeO.ite ?_ ?_
      | refine LeO.bind ?_ (fun _ => ?_)
    · intro y0 y1 y2 y3 y4
      unfold berthref02_Share.j1
      repeat' first
      | (with_reducible exact ih0 _ _ _ _)
      | (with_reducible exact ih1 _ _ _ _ _)
      | (with_reducible exact ih2 _ _ _ _ _ _ _)
      | (with_reducible exact ih3 _ _ _ _ _ _ _)
      | (with_reducible exact LeO.refl _)
      | (with_reducible exact LeO.none _)
      | (with_reducible refine LeO.ite ?_ ?_)
      | (with_reducible refine LeO.bind ?_ (fun _ => ?_))
      | exact ih0 _ _ _ _
      | exact ih1 _ _ _ _ _
      | exact ih2 _ _ _ _ _ _ _
      | exact ih3 _ _ _ _ _ _ _
      | exact LeO.none _
      | refine LeO.ite ?_ ?_
      | refine LeO.bind ?_ (fun _ => ?_)
    · intro y0 y1 y2 y3 y4 y5 y6
      unfold berthref02_Share.l0
      repeat' first
      | (with_reducible exact ih0 _ _ _ _)
      | (with_reducible exact ih1 _ _ _ _ _)
      | (with_reducible exact ih2 _ _ _ _ _ _ _)
      | (with_reducible exact ih3 _ _ _ _ _ _ _)
      | (with_reducible exact LeO.refl _)
      | (with_reducible exact LeO.none _)
      | (with_reducible refine LeO.ite ?_ ?_)
      | (with_reducible refine LeO.bind ?_ (fun _ => ?_))
      | exact ih0 _ _ _ _
      | exact ih1 _ _ _ _ _
      | exact ih2 _ _ _ _ _ _ _
      | exact ih3 _ _ _ _ _ _ _
      | exact LeO.none _
      | refine LeO.ite ?_ ?_
      | refine LeO.bind ?_ (fun _ => ?_)
    · intro y0 y1 y2 y3 y4 y5 y6
      unfold berthref02_Share.j3
      repeat' first
      | (with_reducible exact ih0 _ _ _ _)
      | (with_reducible exact ih1 _ _ _ _ _)
      | (with_reducible exact ih2 _ _ _ _ _ _ _)
      | (with_reducible exact ih3 _ _ _ _ _ _ _)
      | (with_reducible exact LeO.refl _)
      | (with_reducible exact LeO.none _)
      | (with_reducible refine LeO.ite ?_ ?_)
      | (with_reducible refine LeO.bind ?_ (fun _ => ?_))
      | exact ih0 _ _ _ _
      | exact ih1 _ _ _ _ _
      | exact ih2 _ _ _ _ _ _ _
      | exact ih3 _ _ _ _ _ _ _
      | exact LeO.none _
      | refine LeO.ite ?_ ?_
      | refine LeO.bind ?_ (fun _ => ?_)
theorem berthref02_Share.mono : ∀ a0 a1 a2 k, LeO (berthref02_Share.f k a0 a1 a2) (berthref02_Share.f (k + 1) a0 a1 a2) := by
  intro a0 a1 a2 k
  obtain ⟨ih0, ih1, ih2, ih3⟩ := berthref02_Share.mono_l k
  unfold berthref02_Share.f
  repeat' first
      | (with_reducible exact ih0 _ _ _ _)
      | (with_reducible exact ih1 _ _ _ _ _)
      | (with_reducible exact ih2 _ _ _ _ _ _ _)
      | (with_reducible exact ih3 _ _ _ _ _ _ _)
      | (with_reducible exact LeO.refl _)
      | (with_reducible exact LeO.none _)
      | (with_reducible refine LeO.ite ?_ ?_)
      | (with_reducible refine LeO.bind ?_ (fun _ => ?_))
      | exact ih0 _ _ _ _
      | exact ih1 _ _ _ _ _
      | exact ih2 _ _ _ _ _ _ _
      | exact ih3 _ _ _ _ _ _ _
      | exact LeO.none _
      | refine LeO.ite ?_ ?_
      | refine LeO.bind ?_ (fun _ => ?_)
set_option maxHeartbeats 8000000 in
set_option maxRecDepth 100000 in
theorem berthref02_Share.calls (k : Nat) (a0 : Int) (a1 : Int) (a2 : Int) (r1 : Int) (r2 : Int) (w : World) (h : berthref02_Share.f k a0 a1 a2 = some (r1, r2)) :
    Calls Try.prog 15 #[.int .i64 a0, .int .i64 a1, .int .i64 a2] w fun e w' => e = .returned (.tuple #[.int .i64 r1, .int .i64 r2]) ∧ Drawn0 w w' := by
  have H : (if a0 < 0 then (berthref02_Share.j0 k a0 a1 a2 true) else (if a2 < 0 then (berthref02_Share.j0 k a0 a1 a2 true) else (berthref02_Share.j0 k a0 a1 a2 (decide (a1 < 1))))) = some (r1, r2) := h
  clear h
  have HC4 := Aside0.mk H
  clear H
  go_enter Try.func15, Try.ntmps15
  go_upto_region 1 with (fail)
  repeat (go_quiet (fail); go_upto_region 1 with (fail))
  go_cut [23] (fun v23 wc => ∃ (kq : Nat) (x23_3 : Bool), v23 = .bool x23_3 ∧ Aside0 (berthref02_Share.j0 kq a0 a1 a2 x23_3 = some (r1, r2)) ∧ Aside0 (kq ≤ k) ∧ Drawn0 w wc)
  case first =>
    have H := HC4.out
    clear HC4
    by_cases c5 : a0 < 0
    · rw [if_pos c5] at H
      have c5b0 : decide (a0 < 0) = true := decide_eq_true c5
      clear c5
      (first | rw [c5b0] | (simp only [i64_w, i32_w]; rw [c5b0]) | skip)
      have H' := Aside0.mk H
      clear H
      go_wp2
      repeat (go_quiet (fail); try go_wp2)
      go_meet
      case rel => exact ⟨_, (true), (by first | rfl | (simp; done) | (simp [*]; done) | (simp only [i64_w]; done) | (simp [i64_w, Int.tdiv_eq_ediv_of_nonneg]; done)), H', ⟨by first | omega | exact Nat.le_refl _⟩, by repeat (first | exact Drawn0.refl _ | apply Drawn0.step)⟩
    · rw [if_neg c5] at H
      have c5b0 : decide (a0 < 0) = false := decide_eq_false c5
      clear c5
      (first | rw [c5b0] | (simp only [i64_w, i32_w]; rw [c5b0]) | skip)
      by_cases c6 : a2 < 0
      · rw [if_pos c6] at H
        have c6b0 : decide (a2 < 0) = true := decide_eq_true c6
        clear c6
        have H' := Aside0.mk H
        clear H
        go_wp2
        repeat (go_quiet (fail); try go_wp2)
        go_meet
        case rel => exact ⟨_, (true), (by first | rfl | (simp; done) | (simp [*]; done) | (simp only [i64_w]; done) | (simp [i64_w, Int.tdiv_eq_ediv_of_nonneg]; done)), H', ⟨by first | omega | exact Nat.le_refl _⟩, by repeat (first | exact Drawn0.refl _ | apply Drawn0.step)⟩
      · rw [if_neg c6] at H
        have c6b0 : decide (a2 < 0) = false := decide_eq_false c6
        clear c6
        have H' := Aside0.mk H
        clear H
        go_wp2
        repeat (go_quiet (fail); try go_wp2)
        go_meet
        case rel => exact ⟨_, (decide (a1 < 1)), (by first | rfl | (simp; done) | (simp [*]; done) | (simp only [i64_w]; done) | (simp [i64_w, Int.tdiv_eq_ediv_of_nonneg]; done)), H', ⟨by first | omega | exact Nat.le_refl _⟩, by repeat (first | exact Drawn0.refl _ | apply Drawn0.step)⟩
  case rest =>
    clear HC4
    try clear c1
    try clear p2
    try clear c5
    try clear c5b0
    try clear c6
    try clear c6b0
    obtain ⟨kq, x23_3, rfl, HA, HJ3, ⟨mc3, rfl⟩⟩ := hcut
    cases kq with
    | zero => exact absurd HA.out (by simp [berthref02_Share.j0])
    | succ kj3 =>
      have H := HA.out
      clear HA
      simp only [berthref02_Share.j0] at H
      by_cases c7 : x23_3 = true
      · subst c7
        have H1 : (some (0, 26)) = some (r1, r2) := by rw [if_pos rfl] at H; exact H
        clear H
        have H := H1
        clear H1
        simp only [Option.some.injEq, Prod.mk.injEq] at H
        obtain ⟨rfl, rfl⟩ := H
        go_wp2
        repeat (go_quiet (fail); try go_wp2)
        go_ret2
        exact ⟨by first | rfl | (simp; done) | (simp [*]; done) | (simp only [i64_w]; done) | (simp [i64_w, Int.tdiv_eq_ediv_of_nonneg]; done), by repeat (first | exact Drawn0.refl _ | apply Drawn0.step)⟩
      · replace c7 := Bool.eq_false_iff.mpr c7
        subst c7
        have H1 : (if a1 = 0 then (none) else (if (wrap64 (Int.tdiv a0 a1)) > 0 then (if (wrap64 (Int.tdiv a0 a1)) = 0 then (none) else (berthref02_Share.j1 kj3 a1 a2 (wrap64 (Int.tdiv a0 a1)) (IntKind.u64.wrap (Int.tmod a0 a1)) (decide (a2 > (wrap64 ((9223372036854775807 : Int) / (wrap64 (Int.tdiv a0 a1)))))))) else (berthref02_Share.j1 kj3 a1 a2 (wrap64 (Int.tdiv a0 a1)) (IntKind.u64.wrap (Int.tmod a0 a1)) false))) = some (r1, r2) := by rw [if_neg (show ¬ (false = true) by decide)] at H; exact H
        clear H
        have H := H1
        clear H1
        by_cases c8 : a1 = 0
        · rw [if_pos c8] at H
          exact absurd H (by simp)
        · rw [if_neg c8] at H
          have c8b0 : (a1 == 0) = false := beq_eq_false_iff_ne.mpr c8
          have c8b1 : (a1 != 0) = true := bne_iff_ne.mpr c8
          have HC9 := Aside0.mk H
          clear H
          go_upto_region 4 with (fail)
          repeat (go_quiet (fail); go_upto_region 4 with (fail))
          go_cut [38] (fun v38 wc => ∃ (kq : Nat) (x38_8 : Bool), v38 = .bool x38_8 ∧ Aside0 (berthref02_Share.j1 kq a1 a2 (wrap64 (Int.tdiv a0 a1)) (IntKind.u64.wrap (Int.tmod a0 a1)) x38_8 = some (r1, r2)) ∧ Aside0 (kq ≤ kj3) ∧ Drawn0 w wc)
          case first =>
            have H := HC9.out
            clear HC9
            by_cases c10 : (wrap64 (Int.tdiv a0 a1)) > 0
            · rw [if_pos c10] at H
              have c10b0 : decide (0 < (wrap64 (Int.tdiv a0 a1))) = true := decide_eq_true c10
              (try (have c10b1 : decide (0 < (IntKind.i64.wrap (Int.tdiv a0 a1))) = true := by have h_ : decide (0 < (wrap64 (Int.tdiv a0 a1))) = true := decide_eq_true c10; simp only [i64_w]; exact h_))
              clear c10
              (first | rw [c10b0] | (simp only [i64_w, i32_w]; rw [c10b0]) | skip)
              by_cases c11 : (wrap64 (Int.tdiv a0 a1)) = 0
              · rw [if_pos c11] at H
                exact absurd H (by simp)
              · rw [if_neg c11] at H
                have c11b0 : ((wrap64 (Int.tdiv a0 a1)) == 0) = false := beq_eq_false_iff_ne.mpr c11
                have c11b1 : ((wrap64 (Int.tdiv a0 a1)) != 0) = true := bne_iff_ne.mpr c11
                (try (have c11b2 : ((IntKind.i64.wrap (Int.tdiv a0 a1)) == 0) = false := by have h_ : ((wrap64 (Int.tdiv a0 a1)) == 0) = false := beq_eq_false_iff_ne.mpr c11; simp only [i64_w]; exact h_))
                (try (have c11b3 : ((IntKind.i64.wrap (Int.tdiv a0 a1)) != 0) = true := by have h_ : ((wrap64 (Int.tdiv a0 a1)) != 0) = true := bne_iff_ne.mpr c11; simp only [i64_w]; exact h_))
                have H' := Aside0.mk H
                clear H
                go_wp2
                repeat (go_quiet (fail); try go_wp2)
                go_meet
                case rel => exact ⟨_, (decide (a2 > (wrap64 ((9223372036854775807 : Int) / (wrap64 (Int.tdiv a0 a1)))))), (by first | rfl | (simp; done) | (simp [*]; done) | (simp only [i64_w]; done) | (simp [i64_w, Int.tdiv_eq_ediv_of_nonneg]; done)), H', ⟨by have := HJ3.out; first | omega | exact Nat.le_refl _⟩, by repeat (first | exact Drawn0.refl _ | apply Drawn0.step)⟩
            · rw [if_neg c10] at H
              have c10b0 : decide (0 < (wrap64 (Int.tdiv a0 a1))) = false := decide_eq_false c10
              (try (have c10b1 : decide (0 < (IntKind.i64.wrap (Int.tdiv a0 a1))) = false := by have h_ : decide (0 < (wrap64 (Int.tdiv a0 a1))) = false := decide_eq_false c10; simp only [i64_w]; exact h_))
              clear c10
              (first | rw [c10b0] | (simp only [i64_w, i32_w]; rw [c10b0]) | skip)
              have H' := Aside0.mk H
              clear H
              go_wp2
              repeat (go_quiet (fail); try go_wp2)
              go_meet
              case rel => exact ⟨_, (false), (by first | rfl | (simp; done) | (simp [*]; done) | (simp only [i64_w]; done) | (simp [i64_w, Int.tdiv_eq_ediv_of_nonneg]; done)), H', ⟨by have := HJ3.out; first | omega | exact Nat.le_refl _⟩, by repeat (first | exact Drawn0.refl _ | apply Drawn0.step)⟩
          case rest =>
            clear HC9
            try clear c1
            try clear p2
            try clear c3
            try clear c5
            try clear c5b0
            try clear c6
            try clear c6b0
            try clear p6
            try clear c7
            try clear c8
            try clear c8b0
            try clear c8b1
            try clear c10
            try clear c10b0
            try clear c10b1
            try clear c11
            try clear c11b0
            try clear c11b1
            try clear c11b2
            try clear p2
            obtain ⟨kq, x38_8, rfl, HA, HJ8, ⟨mc8, rfl⟩⟩ := hcut
            cases kq with
            | zero => exact absurd HA.out (by simp [berthref02_Share.j1])
            | succ kj8 =>
              have H := HA.out
              clear HA
              simp only [berthref02_Share.j1] at H
              by_cases c12 : x38_8 = true
              · subst c12
                have H1 : (some (0, 28)) = some (r1, r2) := by rw [if_pos rfl] at H; exact H
                clear H
                have H := H1
                clear H1
                simp only [Option.some.injEq, Prod.mk.injEq] at H
                obtain ⟨rfl, rfl⟩ := H
                go_wp2
                repeat (go_quiet (fail); try go_wp2)
                go_ret2
                exact ⟨by first | rfl | (simp; done) | (simp [*]; done) | (simp only [i64_w]; done) | (simp [i64_w, Int.tdiv_eq_ediv_of_nonneg]; done), by repeat (first | exact Drawn0.refl _ | apply Drawn0.step)⟩
              · replace c12 := Bool.eq_false_iff.mpr c12
                subst c12
                have H1 : (berthref02_Share.l0 kj8 a2 (wrap64 (Int.tdiv a0 a1)) (IntKind.u64.wrap (Int.tmod a0 a1)) 0 0 (IntKind.u64.wrap (a1)) 62) = some (r1, r2) := by rw [if_neg (show ¬ (false = true) by decide)] at H; exact H
                clear H
                have H := H1
                clear H1
                have H' := Aside0.mk H
                clear H
                go_wp2
                repeat (go_quiet (fail); try go_wp2)
                go_loopg [10, 11, 13] kj8 (fun kq v10 v11 v13 w' => ∃ (x10_3 : Int) (x11_3 : Int) (x13_3 : Int), v10 = .int .i64 x10_3 ∧ v11 = .int .u64 x11_3 ∧ v13 = .int .i64 x13_3 ∧ Aside0 (berthref02_Share.l0 kq a2 (wrap64 (Int.tdiv a0 a1)) (IntKind.u64.wrap (Int.tmod a0 a1)) x10_3 x11_3 (IntKind.u64.wrap (a1)) x13_3 = some (r1, r2)) ∧ Aside0 (kq ≤ kj8) ∧ Drawn0 w w')
                case atStart => exact ⟨(0), (0), (62), (by first | rfl | (simp; done) | (simp [*]; done) | (simp only [i64_w]; done) | (simp [i64_w, Int.tdiv_eq_ediv_of_nonneg]; done)), (by first | rfl | (simp; done) | (simp [*]; done) | (simp only [i64_w]; done) | (simp [i64_w, Int.tdiv_eq_ediv_of_nonneg]; done)), (by first | rfl | (simp; done) | (simp [*]; done) | (simp only [i64_w]; done) | (simp [i64_w, Int.tdiv_eq_ediv_of_nonneg]; done)), H', ⟨Nat.le_refl _⟩, by repeat (first | exact Drawn0.refl _ | apply Drawn0.step)⟩
                case round =>
                  clear H'
                  try clear c1
                  try clear p2
                  try clear c3
                  try clear c5
                  try clear c5b0
                  try clear c6
                  try clear c6b0
                  try clear p6
                  try clear c7
                  try clear c8
                  try clear c8b0
                  try clear c8b1
                  try clear c10
                  try clear c10b0
                  try clear c10b1
                  try clear c11
                  try clear c11b0
                  try clear c11b1
                  try clear c11b2
                  try clear c12
                  try clear p2
                  try clear p6
                  obtain ⟨x10_3, x11_3, x13_3, rfl, rfl, rfl, HA, HK3, ⟨m3, rfl⟩⟩ := hrel
                  cases gk with
                  | zero => exact absurd HA.out (by simp [berthref02_Share.l0])
                  | succ k3 =>
                    have H := HA.out
                    clear HA
                    simp only [berthref02_Share.l0] at H
                    by_cases c13 : x13_3 ≥ 0
                    · rw [if_pos c13] at H
                      have c13b0 : decide (0 ≤ x13_3) = true := decide_eq_true c13
                      clear c13
                      have HC14 := Aside0.mk H
                      clear H
                      go_upto_if 51 with (fail)
                      repeat (go_quiet (fail); go_upto_if 51 with (fail))
                      go_cut [10, 11] (fun v10 v11 wc => ∃ (kq : Nat) (x10_13 : Int) (x11_13 : Int), v10 = .int .i64 x10_13 ∧ v11 = .int .u64 x11_13 ∧ Aside0 (berthref02_Share.j3 kq a2 (wrap64 (Int.tdiv a0 a1)) (IntKind.u64.wrap (Int.tmod a0 a1)) x10_13 x11_13 (IntKind.u64.wrap (a1)) x13_3 = some (r1, r2)) ∧ Aside0 (kq ≤ k3) ∧ Drawn0 w wc)
                      case first =>
                        have H := HC14.out
                        clear HC14
                        by_cases c15 : (IntKind.u64.wrap (2 * x11_3)) ≥ (IntKind.u64.wrap (a1))
                        · rw [if_pos c15] at H
                          have c15b0 : decide ((IntKind.u64.wrap (a1)) ≤ (IntKind.u64.wrap (2 * x11_3))) = true := decide_eq_true c15
                          clear c15
                          (first | rw [c15b0] | (simp only [i64_w, i32_w]; rw [c15b0]) | skip)
                          have H' := Aside0.mk H
                          clear H
                          go_wp2
                          repeat (go_quiet (fail); try go_wp2)
                          go_meet
                          case rel => exact ⟨_, (wrap64 ((wrap64 (2 * x10_3)) + 1)), (IntKind.u64.wrap ((IntKind.u64.wrap (2 * x11_3)) - (IntKind.u64.wrap (a1)))), (by first | rfl | (simp; done) | (simp [*]; done) | (simp only [i64_w]; done) | (simp [i64_w, Int.tdiv_eq_ediv_of_nonneg]; done)), (by first | rfl | (simp; done) | (simp [*]; done) | (simp only [i64_w]; done) | (simp [i64_w, Int.tdiv_eq_ediv_of_nonneg]; done)), H', ⟨by have := HJ3.out; have := HJ8.out; have := HK3.out; first | omega | exact Nat.le_refl _⟩, by repeat (first | exact Drawn0.refl _ | apply Drawn0.step)⟩
                        · rw [if_neg c15] at H
                          have c15b0 : decide ((IntKind.u64.wrap (a1)) ≤ (IntKind.u64.wrap (2 * x11_3))) = false := decide_eq_false c15
                          clear c15
                          (first | rw [c15b0] | (simp only [i64_w, i32_w]; rw [c15b0]) | skip)
                          have H' := Aside0.mk H
                          clear H
                          go_wp2
                          repeat (go_quiet (fail); try go_wp2)
                          go_meet
                          case rel => exact ⟨_, (wrap64 (2 * x10_3)), (IntKind.u64.wrap (2 * x11_3)), (by first | rfl | (simp; done) | (simp [*]; done) | (simp only [i64_w]; done) | (simp [i64_w, Int.tdiv_eq_ediv_of_nonneg]; done)), (by first | rfl | (simp; done) | (simp [*]; done) | (simp only [i64_w]; done) | (simp [i64_w, Int.tdiv_eq_ediv_of_nonneg]; done)), H', ⟨by have := HJ3.out; have := HJ8.out; have := HK3.out; first | omega | exact Nat.le_refl _⟩, by repeat (first | exact Drawn0.refl _ | apply Drawn0.step)⟩
                      case rest =>
                        clear HC14
                        try clear c1
                        try clear p2
                        try clear c3
                        try clear c5
                        try clear c5b0
                        try clear c6
                        try clear c6b0
                        try clear p6
                        try clear c7
                        try clear c8
                        try clear c8b0
                        try clear c8b1
                        try clear c10
                        try clear c10b0
                        try clear c10b1
                        try clear c11
                        try clear c11b0
                        try clear c11b1
                        try clear c11b2
                        try clear c12
                        try clear c13
                        try clear c13b0
                        try clear c15
                        try clear c15b0
                        try clear p2
                        try clear p6
                        obtain ⟨kq, x10_13, x11_13, rfl, rfl, HA, HJ13, ⟨mc13, rfl⟩⟩ := hcut
                        cases kq with
                        | zero => exact absurd HA.out (by simp [berthref02_Share.j3])
                        | succ kj13 =>
                          have H := HA.out
                          clear HA
                          simp only [berthref02_Share.j3] at H
                          by_cases c16 : 0 ≤ x13_3
                          · rw [if_pos c16] at H
                            have c16b0 := eq_true c16
                            have c16b1 : decide (0 ≤ x13_3) = true := decide_eq_true c16
                            clear c16
                            obtain ⟨ji17, hji17⟩ : ∃ j_ : Int, (shr .i64 a2 x13_3) = j_ := ⟨_, rfl⟩
                            replace H : (if (Go.bits .and .i64 (ji17) 1) = 1 then (if (IntKind.u64.wrap (x11_13 + (IntKind.u64.wrap (Int.tmod a0 a1)))) ≥ (IntKind.u64.wrap (a1)) then (berthref02_Share.l0 kj13 a2 (wrap64 (Int.tdiv a0 a1)) (IntKind.u64.wrap (Int.tmod a0 a1)) (wrap64 (x10_13 + 1)) (IntKind.u64.wrap ((IntKind.u64.wrap (x11_13 + (IntKind.u64.wrap (Int.tmod a0 a1)))) - (IntKind.u64.wrap (a1)))) (IntKind.u64.wrap (a1)) (wrap64 (x13_3 - 1))) else (berthref02_Share.l0 kj13 a2 (wrap64 (Int.tdiv a0 a1)) (IntKind.u64.wrap (Int.tmod a0 a1)) x10_13 (IntKind.u64.wrap (x11_13 + (IntKind.u64.wrap (Int.tmod a0 a1)))) (IntKind.u64.wrap (a1)) (wrap64 (x13_3 - 1)))) else (berthref02_Share.l0 kj13 a2 (wrap64 (Int.tdiv a0 a1)) (IntKind.u64.wrap (Int.tmod a0 a1)) x10_13 x11_13 (IntKind.u64.wrap (a1)) (wrap64 (x13_3 - 1)))) = some (r1, r2) := by first | (rw [hji17] at H; exact H) | (simp only [hji17] at H ⊢; exact H)
                            have hji17_ : (a2 / 2 ^ min x13_3.toNat 64) = ji17 := hji17
                            have hji17z : x13_3 ≤ 64 → (a2 / 2 ^ x13_3.toNat) = ji17 := shr_small hji17
                            by_cases c18 : (Go.bits .and .i64 (ji17) 1) = 1
                            · rw [if_pos c18] at H
                              have c18b0 : ((Go.bits .and .i64 (ji17) 1) == 1) = true := beq_iff_eq.mpr c18
                              have c18b1 : ((Go.bits .and .i64 (ji17) 1) != 1) = false := bne_eq_false_iff_eq.mpr c18
                              clear c18
                              by_cases c19 : (IntKind.u64.wrap (x11_13 + (IntKind.u64.wrap (Int.tmod a0 a1)))) ≥ (IntKind.u64.wrap (a1))
                              · rw [if_pos c19] at H
                                have c19b0 : decide ((IntKind.u64.wrap (a1)) ≤ (IntKind.u64.wrap (x11_13 + (IntKind.u64.wrap (Int.tmod a0 a1))))) = true := decide_eq_true c19
                                clear c19
                                have H' := Aside0.mk H
                                clear H
                                go_wp2
                                repeat (go_quiet (fail); try go_wp2)
                                go_roundg kj13
                                case measure => have := HJ3.out; have := HJ8.out; have := HK3.out; have := HJ13.out; omega
                                case rel => exact ⟨(wrap64 (x10_13 + 1)), (IntKind.u64.wrap ((IntKind.u64.wrap (x11_13 + (IntKind.u64.wrap (Int.tmod a0 a1)))) - (IntKind.u64.wrap (a1)))), (wrap64 (x13_3 - 1)), (by first | rfl | (simp; done) | (simp [*]; done) | (simp only [i64_w]; done) | (simp [i64_w, Int.tdiv_eq_ediv_of_nonneg]; done)), (by first | rfl | (simp; done) | (simp [*]; done) | (simp only [i64_w]; done) | (simp [i64_w, Int.tdiv_eq_ediv_of_nonneg]; done)), (by first | rfl | (simp; done) | (simp [*]; done) | (simp only [i64_w]; done) | (simp [i64_w, Int.tdiv_eq_ediv_of_nonneg]; done)), H', ⟨by have := HJ3.out; have := HJ8.out; have := HK3.out; have := HJ13.out; omega⟩, by repeat (first | exact Drawn0.refl _ | apply Drawn0.step)⟩
                              · rw [if_neg c19] at H
                                have c19b0 : decide ((IntKind.u64.wrap (a1)) ≤ (IntKind.u64.wrap (x11_13 + (IntKind.u64.wrap (Int.tmod a0 a1))))) = false := decide_eq_false c19
                                clear c19
                                have H' := Aside0.mk H
                                clear H
                                go_wp2
                                repeat (go_quiet (fail); try go_wp2)
                                go_roundg kj13
                                case measure => have := HJ3.out; have := HJ8.out; have := HK3.out; have := HJ13.out; omega
                                case rel => exact ⟨(x10_13), (IntKind.u64.wrap (x11_13 + (IntKind.u64.wrap (Int.tmod a0 a1)))), (wrap64 (x13_3 - 1)), (by first | rfl | (simp; done) | (simp [*]; done) | (simp only [i64_w]; done) | (simp [i64_w, Int.tdiv_eq_ediv_of_nonneg]; done)), (by first | rfl | (simp; done) | (simp [*]; done) | (simp only [i64_w]; done) | (simp [i64_w, Int.tdiv_eq_ediv_of_nonneg]; done)), (by first | rfl | (simp; done) | (simp [*]; done) | (simp only [i64_w]; done) | (simp [i64_w, Int.tdiv_eq_ediv_of_nonneg]; done)), H', ⟨by have := HJ3.out; have := HJ8.out; have := HK3.out; have := HJ13.out; omega⟩, by repeat (first | exact Drawn0.refl _ | apply Drawn0.step)⟩
                            · rw [if_neg c18] at H
                              have c18b0 : ((Go.bits .and .i64 (ji17) 1) == 1) = false := beq_eq_false_iff_ne.mpr c18
                              have c18b1 : ((Go.bits .and .i64 (ji17) 1) != 1) = true := bne_iff_ne.mpr c18
                              have H' := Aside0.mk H
                              clear H
                              go_wp2
                              repeat (go_quiet (fail); try go_wp2)
                              go_roundg kj13
                              case measure => have := HJ3.out; have := HJ8.out; have := HK3.out; have := HJ13.out; omega
                              case rel => exact ⟨(x10_13), (x11_13), (wrap64 (x13_3 - 1)), (by first | rfl | (simp; done) | (simp [*]; done) | (simp only [i64_w]; done) | (simp [i64_w, Int.tdiv_eq_ediv_of_nonneg]; done)), (by first | rfl | (simp; done) | (simp [*]; done) | (simp only [i64_w]; done) | (simp [i64_w, Int.tdiv_eq_ediv_of_nonneg]; done)), (by first | rfl | (simp; done) | (simp [*]; done) | (simp only [i64_w]; done) | (simp [i64_w, Int.tdiv_eq_ediv_of_nonneg]; done)), H', ⟨by have := HJ3.out; have := HJ8.out; have := HK3.out; have := HJ13.out; omega⟩, by repeat (first | exact Drawn0.refl _ | apply Drawn0.step)⟩
                          · rw [if_neg c16] at H
                            exact absurd H (by simp)
                    · rw [if_neg c13] at H
                      have c13b0 : decide (0 ≤ x13_3) = false := decide_eq_false c13
                      clear c13
                      by_cases c20 : x10_3 > (wrap64 (9223372036854775807 - (wrap64 ((wrap64 (Int.tdiv a0 a1)) * a2))))
                      · rw [if_pos c20] at H
                        have c20b0 : decide ((wrap64 (9223372036854775807 - (wrap64 ((wrap64 (Int.tdiv a0 a1)) * a2)))) < x10_3) = true := decide_eq_true c20
                        (try (have c20b1 : decide ((IntKind.i64.wrap (9223372036854775807 - (IntKind.i64.wrap ((IntKind.i64.wrap (Int.tdiv a0 a1)) * a2)))) < x10_3) = true := by have h_ : decide ((wrap64 (9223372036854775807 - (wrap64 ((wrap64 (Int.tdiv a0 a1)) * a2)))) < x10_3) = true := decide_eq_true c20; simp only [i64_w]; exact h_))
                        clear c20
                        simp only [Option.some.injEq, Prod.mk.injEq] at H
                        obtain ⟨rfl, rfl⟩ := H
                        go_wp2
                        repeat (go_quiet (fail); try go_wp2)
                        go_ret2
                        exact ⟨by first | rfl | (simp; done) | (simp [*]; done) | (simp only [i64_w]; done) | (simp [i64_w, Int.tdiv_eq_ediv_of_nonneg]; done), by repeat (first | exact Drawn0.refl _ | apply Drawn0.step)⟩
                      · rw [if_neg c20] at H
                        have c20b0 : decide ((wrap64 (9223372036854775807 - (wrap64 ((wrap64 (Int.tdiv a0 a1)) * a2)))) < x10_3) = false := decide_eq_false c20
                        (try (have c20b1 : decide ((IntKind.i64.wrap (9223372036854775807 - (IntKind.i64.wrap ((IntKind.i64.wrap (Int.tdiv a0 a1)) * a2)))) < x10_3) = false := by have h_ : decide ((wrap64 (9223372036854775807 - (wrap64 ((wrap64 (Int.tdiv a0 a1)) * a2)))) < x10_3) = false := decide_eq_false c20; simp only [i64_w]; exact h_))
                        clear c20
                        simp only [Option.some.injEq, Prod.mk.injEq] at H
                        obtain ⟨rfl, rfl⟩ := H
                        go_wp2
                        repeat (go_quiet (fail); try go_wp2)
                        go_ret2
                        exact ⟨by first | rfl | (simp; done) | (simp [*]; done) | (simp only [i64_w]; done) | (simp [i64_w, Int.tdiv_eq_ediv_of_nonneg]; done), by repeat (first | exact Drawn0.refl _ | apply Drawn0.step)⟩

/-! ### berthlaw02_QuantShares: function 5 -/
def berthlaw02_QuantShares.l0 : Nat → List (S35) → Int → Int → Option (Bool)
  | 0, _, _, _ => none
  | k + 1, x11, x12, x13 => if x13 < x12 then (if 0 ≤ x13 then (if x13 < (x11.length : Int) then ((quant_Share.f k ((rd_T35 x11 x13).f0) ((rd_T35 x11 x13).f1) ((rd_T35 x11 x13).f2)).bind fun bt174 => ((berthref02_Share.f k ((rd_T35 x11 x13).f0) ((rd_T35 x11 x13).f1) ((rd_T35 x11 x13).f2)).bind fun bt176 => (if bt174.1 = bt176.1 then (if bt174.2 = bt176.2 then (berthlaw02_QuantShares.l0 k x11 x12 (wrap64 (x13 + 1))) else (some false)) else (some false)))) else (none)) else (none)) else (some true)
def berthlaw02_QuantShares.f (k : Nat) (l0 : List (S35)) : Option (Bool) := (berthlaw02_fixedShare.f k).bind fun t171 => (if t171 = true then (berthlaw02_QuantShares.l0 k l0 (l0.length : Int) 0) else (some false))
theorem berthlaw02_QuantShares.mono_l : ∀ k, (∀ y0 y1 y2, LeO (berthlaw02_QuantShares.l0 k y0 y1 y2) (berthlaw02_QuantShares.l0 (k + 1) y0 y1 y2))
  | 0 => fun _ _ _ r h => by simp [berthlaw02_QuantShares.l0] at h
  | k + 1 => by
    have ih0 := berthlaw02_QuantShares.mono_l k
    · intro y0 y1 y2
      unfold berthlaw02_QuantShares.l0
      repeat' first
      | (with_reducible exact ih0 _ _ _)
      | (with_reducible exact berthlaw02_fixedShare.mono _)
      | (with_reducible exact berthref02_Share.mono _ _ _ _)
      | (with_reducible exact quant_Share.mono _ _ _ _)
      | (with_reducible exact LeO.refl _)
      | (with_reducible exact LeO.none _)
      | (with_reducible refine LeO.ite ?_ ?_)
      | (with_reducible refine LeO.bind ?_ (fun _ => ?_))
      | exact ih0 _ _ _
      | exact berthlaw02_fixedShare.mono _
      | exact berthref02_Share.mono _ _ _ _
      | exact quant_Share.mono _ _ _ _
      | exact LeO.none _
      | refine LeO.ite ?_ ?_
      | refine LeO.bind ?_ (fun _ => ?_)
theorem berthlaw02_QuantShares.mono : ∀ a0 k, LeO (berthlaw02_QuantShares.f k a0) (berthlaw02_QuantShares.f (k + 1) a0) := by
  intro a0 k
  have ih0 := berthlaw02_QuantShares.mono_l k
  unfold berthlaw02_QuantShares.f
  repeat' first
      | (with_reducible exact ih0 _ _ _)
      | (with_reducible exact berthlaw02_fixedShare.mono _)
      | (with_reducible exact berthref02_Share.mono _ _ _ _)
      | (with_reducible exact quant_Share.mono _ _ _ _)
      | (with_reducible exact LeO.refl _)
      | (with_reducible exact LeO.none _)
      | (with_reducible refine LeO.ite ?_ ?_)
      | (with_reducible refine LeO.bind ?_ (fun _ => ?_))
      | exact ih0 _ _ _
      | exact berthlaw02_fixedShare.mono _
      | exact berthref02_Share.mono _ _ _ _
      | exact quant_Share.mono _ _ _ _
      | exact LeO.none _
      | refine LeO.ite ?_ ?_
      | refine LeO.bind ?_ (fun _ => ?_)
set_option maxHeartbeats 8000000 in
set_option maxRecDepth 100000 in
theorem berthlaw02_QuantShares.calls (k : Nat) (A0 : Option Addr) (c0 : Nat) (l0 : List (S35)) (r : Bool) (w : World) (hr0 : Kd.C k35 w A0 l0.length l0) (hc0 : l0.length ≤ c0) (h : berthlaw02_QuantShares.f k l0 = some r) :
    Calls Try.prog 5 #[.slice A0 l0.length c0] w fun e w' => e = .returned (.bool r) ∧ Below w.heap.size w w' := by
  have hu35 := Try.underlying35
  have HR0 := Aside0.mk hr0
  have HC0 := Aside0.mk hc0
  clear hr0 hc0
  have HB := Aside0.mk (Below.refl w.heap.size w)
  have H : ((berthlaw02_fixedShare.f k).bind fun t171 => (if t171 = true then (berthlaw02_QuantShares.l0 k l0 (l0.length : Int) 0) else (some false))) = some r := h
  clear h
  replace H := Option.bind_eq_some_iff.mp H
  obtain ⟨t171, A20, H⟩ := H
  replace H : (if t171 = true then (berthlaw02_QuantShares.l0 k l0 (l0.length : Int) 0) else (some false)) = some r := H
  have A2 := Aside0.mk A20
  clear A20
  by_cases c3 : t171 = true
  · subst c3
    have H1 : (berthlaw02_QuantShares.l0 k l0 (l0.length : Int) 0) = some r := by rw [if_pos rfl] at H; exact H
    clear H
    have H := H1
    clear H1
    have H' := Aside0.mk H
    clear H
    go_enter Try.func5, Try.ntmps5
    go_wp2_with (first | ((with_reducible refine gate_callee (f := 13) rfl ?_); refine goesL_ (some 9) rfl rfl Try.func13 (by kernel_rfl) rfl #[] rfl (by (try simp only [List.map_toArray, List.map_cons, List.map_nil]); first | done | rfl | (simp only [List.length_drop, List.length_take]; rfl)) ?_; (with_reducible refine (berthlaw02_fixedShare.calls k  true _ A2.out).mono ?_); rintro e w' ⟨rfl, ⟨nd, rfl⟩⟩; refine ⟨_, rfl, ?_⟩))
    go_loopg [13] k (fun kq v13 w' => ∃ (x13_1 : Int), v13 = .int .i64 x13_1 ∧ Aside0 (berthlaw02_QuantShares.l0 kq l0 (l0.length : Int) x13_1 = some r) ∧ Aside0 (kq ≤ k) ∧ Aside0 (Below w.heap.size w w'))
    case atStart => exact ⟨(0), (by first | rfl | (simp; done) | (simp [*]; done) | (simp only [i64_w]; done) | (simp [i64_w, Int.tdiv_eq_ediv_of_nonneg]; done)), H', ⟨Nat.le_refl _⟩, ⟨by repeat (first | (with_reducible first | exact HB.out | apply below_alloc | apply pw_below_drewN | apply below_drew1) | exact HB.out)⟩⟩
    case round =>
      clear H'
      try clear c1
      try clear p2
      try clear c3
      obtain ⟨x13_1, rfl, HA, HK1, HB⟩ := hrel
      cases gk with
      | zero => exact absurd HA.out (by simp [berthlaw02_QuantShares.l0])
      | succ k1 =>
        have H := HA.out
        clear HA
        simp only [berthlaw02_QuantShares.l0] at H
        by_cases c4 : x13_1 < (l0.length : Int)
        · rw [if_pos c4] at H
          have c4b0 : decide (x13_1 < (l0.length : Int)) = true := decide_eq_true c4
          clear c4
          by_cases c5 : 0 ≤ x13_1
          · rw [if_pos c5] at H
            have c5b0 : decide (0 ≤ x13_1) = true := decide_eq_true c5
            clear c5
            by_cases c6 : x13_1 < (l0.length : Int)
            · rw [if_pos c6] at H
              have c6b0 : decide (x13_1 < (l0.length : Int)) = true := decide_eq_true c6
              clear c6
              replace H := Option.bind_eq_some_iff.mp H
              obtain ⟨⟨t174, t175⟩, A70, H⟩ := H
              replace H : ((berthref02_Share.f k1 ((rd_T35 l0 x13_1).f0) ((rd_T35 l0 x13_1).f1) ((rd_T35 l0 x13_1).f2)).bind fun bt176 => (if t174 = bt176.1 then (if t175 = bt176.2 then (berthlaw02_QuantShares.l0 k1 l0 (l0.length : Int) (wrap64 (x13_1 + 1))) else (some false)) else (some false))) = some r := H
              have A7 := Aside0.mk A70
              clear A70
              replace H := Option.bind_eq_some_iff.mp H
              obtain ⟨⟨t176, t177⟩, A80, H⟩ := H
              replace H : (if t174 = t176 then (if t175 = t177 then (berthlaw02_QuantShares.l0 k1 l0 (l0.length : Int) (wrap64 (x13_1 + 1))) else (some false)) else (some false)) = some r := H
              have A8 := Aside0.mk A80
              clear A80
              by_cases c9 : t174 = t176
              · rw [if_pos c9] at H
                have c9b0 : (t174 == t176) = true := beq_iff_eq.mpr c9
                have c9b1 : (t174 != t176) = false := bne_eq_false_iff_eq.mpr c9
                clear c9
                by_cases c10 : t175 = t177
                · rw [if_pos c10] at H
                  have c10b0 : (t175 == t177) = true := beq_iff_eq.mpr c10
                  have c10b1 : (t175 != t177) = false := bne_eq_false_iff_eq.mpr c10
                  clear c10
                  have H' := Aside0.mk H
                  clear H
                  have p172 : 0 ≤ (x13_1 : Int) := of_decide_eq_true (by first | (with_reducible assumption) | assumption)
                  have q172 : x13_1 < (l0.length : Int) := of_decide_eq_true (by first | (with_reducible assumption) | assumption)
                  obtain ⟨ad172, e172, hx172_0, hx172_1, hx172_2⟩ := at_T35 HR0.out x13_1 p172 q172
                  cases e172
                  replace hx172_0 := (HB.out.cell (World.block_lt_of_cell? w _ hx172_0)).trans hx172_0
                  replace hx172_1 := (HB.out.cell (World.block_lt_of_cell? w _ hx172_1)).trans hx172_1
                  replace hx172_2 := (HB.out.cell (World.block_lt_of_cell? w _ hx172_2)).trans hx172_2
                  replace p172 := eq_true p172
                  replace q172 := eq_true q172
                  go_wp2_with (first | ((with_reducible refine gate_dst (N := 4) rfl ?_); refine box_event ?hg (N := 4) ?hd (cs := #[.int .i64 0, .int .i64 0, .int .i64 0]) (t := 35) ?hr ?_; (case hd => rfl); (case hg => rfl); (case hr => first | (go_simp; done) | (go_simp; rfl)); intro gb173 hg w11 hbox hb; have n0_ := Aside0.mk (below_step (by repeat (first | (with_reducible first | exact HB.out | apply below_alloc | apply pw_below_drewN | apply below_drew1) | exact HB.out)) hb); have n1_ := Aside0.mk (hbox); have n2_ := Aside0.mk ((by rw [hg]; exact (below_size (by repeat (first | (with_reducible first | exact HB.out | apply below_alloc | apply pw_below_drewN | apply below_drew1) | exact HB.out))) : w.heap.size ≤ gb173)); have n3_ := Aside0.mk ((by rw [hg]; exact (below_size (by repeat (first | (with_reducible first | exact HB.out | apply below_alloc | apply pw_below_drewN | apply below_drew1) | exact HB.out))) : w.heap.size ≤ gb173)); clear HB; have HB := n0_; have BK173 := n1_; have GW173 := n2_; have GE173 := n3_; clear n0_ n1_ n2_ n3_; clear hb hbox hg; have hcz12_0 : w11.cell? ⟨gb173, 0, none⟩ = some (.int .i64 0) := (blk_cell BK173.out 0).trans rfl; have hcz12_1 : w11.cell? ⟨gb173, 1, none⟩ = some (.int .i64 0) := (blk_cell BK173.out 1).trans rfl; have hcz12_2 : w11.cell? ⟨gb173, 2, none⟩ = some (.int .i64 0) := (blk_cell BK173.out 2).trans rfl; have hfz12_0 := blk_frozen BK173.out 0; have hfz12_1 := blk_frozen BK173.out 1; have hfz12_2 := blk_frozen BK173.out 2) | ((with_reducible refine gate_callee (f := 14) rfl ?_); refine goesL_ (some 24) rfl rfl Try.func14 (by kernel_rfl) rfl #[.int .i64 ((rd_T35 l0 x13_1).f0), .int .i64 ((rd_T35 l0 x13_1).f1), .int .i64 ((rd_T35 l0 x13_1).f2)] rfl (by (try simp only [List.map_toArray, List.map_cons, List.map_nil]); first | done | rfl | (simp only [List.length_drop, List.length_take]; rfl)) ?_; (with_reducible refine (quant_Share.calls k1 ((rd_T35 l0 x13_1).f0) ((rd_T35 l0 x13_1).f1) ((rd_T35 l0 x13_1).f2) t174 t175 _ A7.out).mono ?_); rintro e w' ⟨rfl, ⟨nd, rfl⟩⟩; refine ⟨_, rfl, ?_⟩) | ((with_reducible refine gate_callee (f := 15) rfl ?_); refine goesL_ (some 34) rfl rfl Try.func15 (by kernel_rfl) rfl #[.int .i64 ((rd_T35 l0 x13_1).f0), .int .i64 ((rd_T35 l0 x13_1).f1), .int .i64 ((rd_T35 l0 x13_1).f2)] rfl (by (try simp only [List.map_toArray, List.map_cons, List.map_nil]); first | done | rfl | (simp only [List.length_drop, List.length_take]; rfl)) ?_; (with_reducible refine (berthref02_Share.calls k1 ((rd_T35 l0 x13_1).f0) ((rd_T35 l0 x13_1).f1) ((rd_T35 l0 x13_1).f2) t176 t177 _ A8.out).mono ?_); rintro e w' ⟨rfl, ⟨nd, rfl⟩⟩; refine ⟨_, rfl, ?_⟩))
                  go_roundg k1
                  case measure => have := HK1.out; omega
                  case rel => exact ⟨(wrap64 (x13_1 + 1)), (by first | rfl | (simp; done) | (simp [*]; done) | (simp only [i64_w]; done) | (simp [i64_w, Int.tdiv_eq_ediv_of_nonneg]; done)), H', ⟨by have := HK1.out; omega⟩, ⟨by repeat (first | (with_reducible first | exact HB.out | apply below_alloc | apply pw_below_drewN | apply below_drew1 | refine below_set ?_ GE173.out) | exact HB.out)⟩⟩
                · rw [if_neg c10] at H
                  have c10b0 : (t175 == t177) = false := beq_eq_false_iff_ne.mpr c10
                  have c10b1 : (t175 != t177) = true := bne_iff_ne.mpr c10
                  obtain rfl := Option.some.inj H
                  have p172 : 0 ≤ (x13_1 : Int) := of_decide_eq_true (by first | (with_reducible assumption) | assumption)
                  have q172 : x13_1 < (l0.length : Int) := of_decide_eq_true (by first | (with_reducible assumption) | assumption)
                  obtain ⟨ad172, e172, hx172_0, hx172_1, hx172_2⟩ := at_T35 HR0.out x13_1 p172 q172
                  cases e172
                  replace hx172_0 := (HB.out.cell (World.block_lt_of_cell? w _ hx172_0)).trans hx172_0
                  replace hx172_1 := (HB.out.cell (World.block_lt_of_cell? w _ hx172_1)).trans hx172_1
                  replace hx172_2 := (HB.out.cell (World.block_lt_of_cell? w _ hx172_2)).trans hx172_2
                  replace p172 := eq_true p172
                  replace q172 := eq_true q172
                  go_wp2_with (first | ((with_reducible refine gate_dst (N := 4) rfl ?_); refine box_event ?hg (N := 4) ?hd (cs := #[.int .i64 0, .int .i64 0, .int .i64 0]) (t := 35) ?hr ?_; (case hd => rfl); (case hg => rfl); (case hr => first | (go_simp; done) | (go_simp; rfl)); intro gb173 hg w13 hbox hb; have n0_ := Aside0.mk (below_step (by repeat (first | (with_reducible first | exact HB.out | apply below_alloc | apply pw_below_drewN | apply below_drew1) | exact HB.out)) hb); have n1_ := Aside0.mk (hbox); have n2_ := Aside0.mk ((by rw [hg]; exact (below_size (by repeat (first | (with_reducible first | exact HB.out | apply below_alloc | apply pw_below_drewN | apply below_drew1) | exact HB.out))) : w.heap.size ≤ gb173)); have n3_ := Aside0.mk ((by rw [hg]; exact (below_size (by repeat (first | (with_reducible first | exact HB.out | apply below_alloc | apply pw_below_drewN | apply below_drew1) | exact HB.out))) : w.heap.size ≤ gb173)); clear HB; have HB := n0_; have BK173 := n1_; have GW173 := n2_; have GE173 := n3_; clear n0_ n1_ n2_ n3_; clear hb hbox hg; have hcz14_0 : w13.cell? ⟨gb173, 0, none⟩ = some (.int .i64 0) := (blk_cell BK173.out 0).trans rfl; have hcz14_1 : w13.cell? ⟨gb173, 1, none⟩ = some (.int .i64 0) := (blk_cell BK173.out 1).trans rfl; have hcz14_2 : w13.cell? ⟨gb173, 2, none⟩ = some (.int .i64 0) := (blk_cell BK173.out 2).trans rfl; have hfz14_0 := blk_frozen BK173.out 0; have hfz14_1 := blk_frozen BK173.out 1; have hfz14_2 := blk_frozen BK173.out 2) | ((with_reducible refine gate_callee (f := 14) rfl ?_); refine goesL_ (some 24) rfl rfl Try.func14 (by kernel_rfl) rfl #[.int .i64 ((rd_T35 l0 x13_1).f0), .int .i64 ((rd_T35 l0 x13_1).f1), .int .i64 ((rd_T35 l0 x13_1).f2)] rfl (by (try simp only [List.map_toArray, List.map_cons, List.map_nil]); first | done | rfl | (simp only [List.length_drop, List.length_take]; rfl)) ?_; (with_reducible refine (quant_Share.calls k1 ((rd_T35 l0 x13_1).f0) ((rd_T35 l0 x13_1).f1) ((rd_T35 l0 x13_1).f2) t174 t175 _ A7.out).mono ?_); rintro e w' ⟨rfl, ⟨nd, rfl⟩⟩; refine ⟨_, rfl, ?_⟩) | ((with_reducible refine gate_callee (f := 15) rfl ?_); refine goesL_ (some 34) rfl rfl Try.func15 (by kernel_rfl) rfl #[.int .i64 ((rd_T35 l0 x13_1).f0), .int .i64 ((rd_T35 l0 x13_1).f1), .int .i64 ((rd_T35 l0 x13_1).f2)] rfl (by (try simp only [List.map_toArray, List.map_cons, List.map_nil]); first | done | rfl | (simp only [List.length_drop, List.length_take]; rfl)) ?_; (with_reducible refine (berthref02_Share.calls k1 ((rd_T35 l0 x13_1).f0) ((rd_T35 l0 x13_1).f1) ((rd_T35 l0 x13_1).f2) t176 t177 _ A8.out).mono ?_); rintro e w' ⟨rfl, ⟨nd, rfl⟩⟩; refine ⟨_, rfl, ?_⟩))
                  go_ret
                  exact ⟨by first | rfl | (simp [errW_none, errW_some] <;> rfl) | (simp [*, errW_none, errW_some] <;> rfl), by repeat (first | (with_reducible first | exact HB.out | apply below_alloc | apply pw_below_drewN | apply below_drew1 | refine below_set ?_ GE173.out) | exact HB.out)⟩
              · rw [if_neg c9] at H
                have c9b0 : (t174 == t176) = false := beq_eq_false_iff_ne.mpr c9
                have c9b1 : (t174 != t176) = true := bne_iff_ne.mpr c9
                obtain rfl := Option.some.inj H
                have p172 : 0 ≤ (x13_1 : Int) := of_decide_eq_true (by first | (with_reducible assumption) | assumption)
                have q172 : x13_1 < (l0.length : Int) := of_decide_eq_true (by first | (with_reducible assumption) | assumption)
                obtain ⟨ad172, e172, hx172_0, hx172_1, hx172_2⟩ := at_T35 HR0.out x13_1 p172 q172
                cases e172
                replace hx172_0 := (HB.out.cell (World.block_lt_of_cell? w _ hx172_0)).trans hx172_0
                replace hx172_1 := (HB.out.cell (World.block_lt_of_cell? w _ hx172_1)).trans hx172_1
                replace hx172_2 := (HB.out.cell (World.block_lt_of_cell? w _ hx172_2)).trans hx172_2
                replace p172 := eq_true p172
                replace q172 := eq_true q172
                go_wp2_with (first | ((with_reducible refine gate_dst (N := 4) rfl ?_); refine box_event ?hg (N := 4) ?hd (cs := #[.int .i64 0, .int .i64 0, .int .i64 0]) (t := 35) ?hr ?_; (case hd => rfl); (case hg => rfl); (case hr => first | (go_simp; done) | (go_simp; rfl)); intro gb173 hg w15 hbox hb; have n0_ := Aside0.mk (below_step (by repeat (first | (with_reducible first | exact HB.out | apply below_alloc | apply pw_below_drewN | apply below_drew1) | exact HB.out)) hb); have n1_ := Aside0.mk (hbox); have n2_ := Aside0.mk ((by rw [hg]; exact (below_size (by repeat (first | (with_reducible first | exact HB.out | apply below_alloc | apply pw_below_drewN | apply below_drew1) | exact HB.out))) : w.heap.size ≤ gb173)); have n3_ := Aside0.mk ((by rw [hg]; exact (below_size (by repeat (first | (with_reducible first | exact HB.out | apply below_alloc | apply pw_below_drewN | apply below_drew1) | exact HB.out))) : w.heap.size ≤ gb173)); clear HB; have HB := n0_; have BK173 := n1_; have GW173 := n2_; have GE173 := n3_; clear n0_ n1_ n2_ n3_; clear hb hbox hg; have hcz16_0 : w15.cell? ⟨gb173, 0, none⟩ = some (.int .i64 0) := (blk_cell BK173.out 0).trans rfl; have hcz16_1 : w15.cell? ⟨gb173, 1, none⟩ = some (.int .i64 0) := (blk_cell BK173.out 1).trans rfl; have hcz16_2 : w15.cell? ⟨gb173, 2, none⟩ = some (.int .i64 0) := (blk_cell BK173.out 2).trans rfl; have hfz16_0 := blk_frozen BK173.out 0; have hfz16_1 := blk_frozen BK173.out 1; have hfz16_2 := blk_frozen BK173.out 2) | ((with_reducible refine gate_callee (f := 14) rfl ?_); refine goesL_ (some 24) rfl rfl Try.func14 (by kernel_rfl) rfl #[.int .i64 ((rd_T35 l0 x13_1).f0), .int .i64 ((rd_T35 l0 x13_1).f1), .int .i64 ((rd_T35 l0 x13_1).f2)] rfl (by (try simp only [List.map_toArray, List.map_cons, List.map_nil]); first | done | rfl | (simp only [List.length_drop, List.length_take]; rfl)) ?_; (with_reducible refine (quant_Share.calls k1 ((rd_T35 l0 x13_1).f0) ((rd_T35 l0 x13_1).f1) ((rd_T35 l0 x13_1).f2) t174 t175 _ A7.out).mono ?_); rintro e w' ⟨rfl, ⟨nd, rfl⟩⟩; refine ⟨_, rfl, ?_⟩) | ((with_reducible refine gate_callee (f := 15) rfl ?_); refine goesL_ (some 34) rfl rfl Try.func15 (by kernel_rfl) rfl #[.int .i64 ((rd_T35 l0 x13_1).f0), .int .i64 ((rd_T35 l0 x13_1).f1), .int .i64 ((rd_T35 l0 x13_1).f2)] rfl (by (try simp only [List.map_toArray, List.map_cons, List.map_nil]); first | done | rfl | (simp only [List.length_drop, List.length_take]; rfl)) ?_; (with_reducible refine (berthref02_Share.calls k1 ((rd_T35 l0 x13_1).f0) ((rd_T35 l0 x13_1).f1) ((rd_T35 l0 x13_1).f2) t176 t177 _ A8.out).mono ?_); rintro e w' ⟨rfl, ⟨nd, rfl⟩⟩; refine ⟨_, rfl, ?_⟩))
                go_ret
                exact ⟨by first | rfl | (simp [errW_none, errW_some] <;> rfl) | (simp [*, errW_none, errW_some] <;> rfl), by repeat (first | (with_reducible first | exact HB.out | apply below_alloc | apply pw_below_drewN | apply below_drew1 | refine below_set ?_ GE173.out) | exact HB.out)⟩
            · rw [if_neg c6] at H
              exact absurd H (by simp)
          · rw [if_neg c5] at H
            exact absurd H (by simp)
        · rw [if_neg c4] at H
          have c4b0 : decide (x13_1 < (l0.length : Int)) = false := decide_eq_false c4
          clear c4
          obtain rfl := Option.some.inj H
          go_wp2
          go_ret
          exact ⟨by first | rfl | (simp [errW_none, errW_some] <;> rfl) | (simp [*, errW_none, errW_some] <;> rfl), by repeat (first | (with_reducible first | exact HB.out | apply below_alloc | apply pw_below_drewN | apply below_drew1) | exact HB.out)⟩
  · replace c3 := Bool.eq_false_iff.mpr c3
    subst c3
    have H1 : (some false) = some r := by rw [if_neg (show ¬ (false = true) by decide)] at H; exact H
    clear H
    have H := H1
    clear H1
    obtain rfl := Option.some.inj H
    go_enter Try.func5, Try.ntmps5
    go_wp2_with (first | ((with_reducible refine gate_callee (f := 13) rfl ?_); refine goesL_ (some 9) rfl rfl Try.func13 (by kernel_rfl) rfl #[] rfl (by (try simp only [List.map_toArray, List.map_cons, List.map_nil]); first | done | rfl | (simp only [List.length_drop, List.length_take]; rfl)) ?_; (with_reducible refine (berthlaw02_fixedShare.calls k  false _ A2.out).mono ?_); rintro e w' ⟨rfl, ⟨nd, rfl⟩⟩; refine ⟨_, rfl, ?_⟩))
    go_ret
    exact ⟨by first | rfl | (simp [errW_none, errW_some] <;> rfl) | (simp [*, errW_none, errW_some] <;> rfl), by repeat (first | (with_reducible first | exact HB.out | apply below_alloc | apply pw_below_drewN | apply below_drew1) | exact HB.out)⟩

-- NOT PRINTED: function 16 (berthlaw02_wide)

-- NOT PRINTED: function 17 (berthlaw02_plus)

-- NOT PRINTED: function 18 (berthlaw02_below)

-- NOT PRINTED: function 6 (berthlaw02_QuantShareBounds)

end Go.Proofs.Ytbibnendaddbhaa.All
