/- A part of the proof of QuantSums: walks written by a program of this session. -/
import Derived.Test.YtbibnendaddbhaazSumsm0
namespace Go.Proofs.Ytbibnendaddbhaa.All
open Go.RowKit Go.Proofs.YtbibnendaddbhaaW.PrintWords Go.Proofs.YtbibnendaddbhaaW.PrintLast Go.Proofs.YtbibnendaddbhaaW.PrintMore
attribute [local go_sem] max2_int min2_int max_two min_two max_three min_three max_four min_four
attribute [local go_sem] Go.Proofs.YtbibnendaddbhaaX.binOp_leq Go.Proofs.YtbibnendaddbhaaX.binOp_geq Go.Proofs.YtbibnendaddbhaaX.binOp_gtr
set_option linter.unusedVariables false
set_option linter.unusedSimpArgs false
mutual
def berthref02_IsName.j0 : Nat → ByteArray → Bool → Option (Bool)
  | 0, _, _ => none
  | k + 1, x0, x15 => if x15 = true then (some false) else (berthref02_IsName.l0 k x0 0)
def berthref02_IsName.l0 : Nat → ByteArray → Int → Option (Bool)
  | 0, _, _ => none
  | k + 1, x0, x3 => if x3 < (x0.size : Int) then (if 0 ≤ x3 then (if (bt x0 x3) ≥ 97 then (if (bt x0 x3) ≥ 48 then (if (bt x0 x3) = 45 then (if x3 = 0 then (if ((bt x0 x3) ≤ 122) then (if x3 = (wrap64 ((x0.size : Int) - 1)) then (berthref02_IsName.l0 k x0 (wrap64 (x3 + 1))) else (berthref02_IsName.l0 k x0 (wrap64 (x3 + 1)))) else (some false)) else (if x3 = (wrap64 ((x0.size : Int) - 1)) then (if ((bt x0 x3) ≤ 122) then (berthref02_IsName.l0 k x0 (wrap64 (x3 + 1))) else (if ((bt x0 x3) ≤ 57) then (berthref02_IsName.l0 k x0 (wrap64 (x3 + 1))) else (some false))) else (if ((bt x0 x3) ≤ 122) then (berthref02_IsName.l0 k x0 (wrap64 (x3 + 1))) else (if ((bt x0 x3) ≤ 57) then (berthref02_IsName.l0 k x0 (wrap64 (x3 + 1))) else (berthref02_IsName.l0 k x0 (wrap64 (x3 + 1))))))) else (if (bt x0 x3) = 46 then (if x3 = 0 then (if ((bt x0 x3) ≤ 122) then (if x3 = (wrap64 ((x0.size : Int) - 1)) then (berthref02_IsName.l0 k x0 (wrap64 (x3 + 1))) else (berthref02_IsName.l0 k x0 (wrap64 (x3 + 1)))) else (some false)) else (if x3 = (wrap64 ((x0.size : Int) - 1)) then (if ((bt x0 x3) ≤ 122) then (berthref02_IsName.l0 k x0 (wrap64 (x3 + 1))) else (if ((bt x0 x3) ≤ 57) then (berthref02_IsName.l0 k x0 (wrap64 (x3 + 1))) else (some false))) else (if ((bt x0 x3) ≤ 122) then (berthref02_IsName.l0 k x0 (wrap64 (x3 + 1))) else (if ((bt x0 x3) ≤ 57) then (berthref02_IsName.l0 k x0 (wrap64 (x3 + 1))) else (berthref02_IsName.l0 k x0 (wrap64 (x3 + 1))))))) else (if x3 = 0 then (if ((bt x0 x3) ≤ 122) then (if x3 = (wrap64 ((x0.size : Int) - 1)) then (berthref02_IsName.l0 k x0 (wrap64 (x3 + 1))) else (berthref02_IsName.l0 k x0 (wrap64 (x3 + 1)))) else (some false)) else (if x3 = (wrap64 ((x0.size : Int) - 1)) then (if ((bt x0 x3) ≤ 122) then (berthref02_IsName.l0 k x0 (wrap64 (x3 + 1))) else (if ((bt x0 x3) ≤ 57) then (berthref02_IsName.l0 k x0 (wrap64 (x3 + 1))) else (some false))) else (if ((bt x0 x3) ≤ 122) then (berthref02_IsName.l0 k x0 (wrap64 (x3 + 1))) else (if ((bt x0 x3) ≤ 57) then (berthref02_IsName.l0 k x0 (wrap64 (x3 + 1))) else (if ((bt x0 x3) = 47) then (berthref02_IsName.l0 k x0 (wrap64 (x3 + 1))) else (some false)))))))) else (if (bt x0 x3) = 45 then (if x3 = 0 then (if ((bt x0 x3) ≤ 122) then (if x3 = (wrap64 ((x0.size : Int) - 1)) then (berthref02_IsName.l0 k x0 (wrap64 (x3 + 1))) else (berthref02_IsName.l0 k x0 (wrap64 (x3 + 1)))) else (some false)) else (if x3 = (wrap64 ((x0.size : Int) - 1)) then (if ((bt x0 x3) ≤ 122) then (berthref02_IsName.l0 k x0 (wrap64 (x3 + 1))) else (some false)) else (if ((bt x0 x3) ≤ 122) then (berthref02_IsName.l0 k x0 (wrap64 (x3 + 1))) else (berthref02_IsName.l0 k x0 (wrap64 (x3 + 1)))))) else (if (bt x0 x3) = 46 then (if x3 = 0 then (if ((bt x0 x3) ≤ 122) then (if x3 = (wrap64 ((x0.size : Int) - 1)) then (berthref02_IsName.l0 k x0 (wrap64 (x3 + 1))) else (berthref02_IsName.l0 k x0 (wrap64 (x3 + 1)))) else (some false)) else (if x3 = (wrap64 ((x0.size : Int) - 1)) then (if ((bt x0 x3) ≤ 122) then (berthref02_IsName.l0 k x0 (wrap64 (x3 + 1))) else (some false)) else (if ((bt x0 x3) ≤ 122) then (berthref02_IsName.l0 k x0 (wrap64 (x3 + 1))) else (berthref02_IsName.l0 k x0 (wrap64 (x3 + 1)))))) else (if x3 = 0 then (if ((bt x0 x3) ≤ 122) then (if x3 = (wrap64 ((x0.size : Int) - 1)) then (berthref02_IsName.l0 k x0 (wrap64 (x3 + 1))) else (berthref02_IsName.l0 k x0 (wrap64 (x3 + 1)))) else (some false)) else (if x3 = (wrap64 ((x0.size : Int) - 1)) then (if ((bt x0 x3) ≤ 122) then (berthref02_IsName.l0 k x0 (wrap64 (x3 + 1))) else (some false)) else (if ((bt x0 x3) ≤ 122) then (berthref02_IsName.l0 k x0 (wrap64 (x3 + 1))) else (if ((bt x0 x3) = 47) then (berthref02_IsName.l0 k x0 (wrap64 (x3 + 1))) else (some false)))))))) else (if (bt x0 x3) ≥ 48 then (if (bt x0 x3) = 45 then (if x3 = 0 then (some false) else (if x3 = (wrap64 ((x0.size : Int) - 1)) then (if ((bt x0 x3) ≤ 57) then (berthref02_IsName.l0 k x0 (wrap64 (x3 + 1))) else (some false)) else (if ((bt x0 x3) ≤ 57) then (berthref02_IsName.l0 k x0 (wrap64 (x3 + 1))) else (berthref02_IsName.l0 k x0 (wrap64 (x3 + 1)))))) else (if (bt x0 x3) = 46 then (if x3 = 0 then (some false) else (if x3 = (wrap64 ((x0.size : Int) - 1)) then (if ((bt x0 x3) ≤ 57) then (berthref02_IsName.l0 k x0 (wrap64 (x3 + 1))) else (some false)) else (if ((bt x0 x3) ≤ 57) then (berthref02_IsName.l0 k x0 (wrap64 (x3 + 1))) else (berthref02_IsName.l0 k x0 (wrap64 (x3 + 1)))))) else (if x3 = 0 then (some false) else (if x3 = (wrap64 ((x0.size : Int) - 1)) then (if ((bt x0 x3) ≤ 57) then (berthref02_IsName.l0 k x0 (wrap64 (x3 + 1))) else (some false)) else (if ((bt x0 x3) ≤ 57) then (berthref02_IsName.l0 k x0 (wrap64 (x3 + 1))) else (if ((bt x0 x3) = 47) then (berthref02_IsName.l0 k x0 (wrap64 (x3 + 1))) else (some false))))))) else (if (bt x0 x3) = 45 then (if x3 = 0 then (some false) else (if x3 = (wrap64 ((x0.size : Int) - 1)) then (some false) else (berthref02_IsName.l0 k x0 (wrap64 (x3 + 1))))) else (if (bt x0 x3) = 46 then (if x3 = 0 then (some false) else (if x3 = (wrap64 ((x0.size : Int) - 1)) then (some false) else (berthref02_IsName.l0 k x0 (wrap64 (x3 + 1))))) else (if x3 = 0 then (some false) else (if x3 = (wrap64 ((x0.size : Int) - 1)) then (some false) else (if ((bt x0 x3) = 47) then (berthref02_IsName.l0 k x0 (wrap64 (x3 + 1))) else (some false)))))))) else (none)) else (some true)
end
def berthref02_IsName.f (k : Nat) (a0 : ByteArray) : Option (Bool) := if (a0.size : Int) < 1 then (berthref02_IsName.j0 k a0 true) else (berthref02_IsName.j0 k a0 (decide ((a0.size : Int) > 32)))
theorem berthref02_IsName.mono_l : ∀ k, (∀ y0 y1, LeO (berthref02_IsName.j0 k y0 y1) (berthref02_IsName.j0 (k + 1) y0 y1)) ∧ (∀ y0 y1, LeO (berthref02_IsName.l0 k y0 y1) (berthref02_IsName.l0 (k + 1) y0 y1))
  | 0 => ⟨fun _ _ r h => by simp [berthref02_IsName.j0] at h, fun _ _ r h => by simp [berthref02_IsName.l0] at h⟩
  | k + 1 => by
    obtain ⟨ih0, ih1⟩ := berthref02_IsName.mono_l k
    refine ⟨?_, ?_⟩
    · intro y0 y1
      unfold berthref02_IsName.j0
      repeat' first
      | (with_reducible exact ih0 _ _)
      | (with_reducible exact ih1 _ _)
      | (with_reducible exact LeO.refl _)
      | (with_reducible exact LeO.none _)
      | (with_reducible refine LeO.ite ?_ ?_)
      | (with_reducible refine LeO.bind ?_ (fun _ => ?_))
      | exact ih0 _ _
      | exact ih1 _ _
      | exact LeO.none _
      | refine LeO.ite ?_ ?_
      | refine LeO.bind ?_ (fun _ => ?_)
    · intro y0 y1
      unfold berthref02_IsName.l0
      repeat' first
      | (with_reducible exact ih0 _ _)
      | (with_reducible exact ih1 _ _)
      | (with_reducible exact LeO.refl _)
      | (with_reducible exact LeO.none _)
      | (with_reducible refine LeO.ite ?_ ?_)
      | (with_reducible refine LeO.bind ?_ (fun _ => ?_))
      | exact ih0 _ _
      | exact ih1 _ _
      | exact LeO.none _
      | refine LeO.ite ?_ ?_
      | refine LeO.bind ?_ (fun _ => ?_)
theorem berthref02_IsName.mono : ∀ a0 k, LeO (berthref02_IsName.f k a0) (berthref02_IsName.f (k + 1) a0) := by
  intro a0 k
  obtain ⟨ih0, ih1⟩ := berthref02_IsName.mono_l k
  unfold berthref02_IsName.f
  repeat' first
      | (with_reducible exact ih0 _ _)
      | (with_reducible exact ih1 _ _)
      | (with_reducible exact LeO.refl _)
      | (with_reducible exact LeO.none _)
      | (with_reducible refine LeO.ite ?_ ?_)
      | (with_reducible refine LeO.bind ?_ (fun _ => ?_))
      | exact ih0 _ _
      | exact ih1 _ _
      | exact LeO.none _
      | refine LeO.ite ?_ ?_
      | refine LeO.bind ?_ (fun _ => ?_)
set_option maxHeartbeats 8000000 in
set_option maxRecDepth 100000 in
theorem berthref02_IsName.calls (k : Nat) (a0 : ByteArray) (r : Bool) (w : World) (h : berthref02_IsName.f k a0 = some r) :
 Calls Try.prog 38 #[.string a0] w fun e w' => e = .returned (.bool r) ∧ Drawn0 w w' := by
 have H : (if (a0.size : Int) < 1 then (berthref02_IsName.j0 k a0 true) else (berthref02_IsName.j0 k a0 (decide ((a0.size : Int) > 32)))) = some r := h
 clear h
 have HC2 := Aside0.mk H
 clear H
 go_enter Try.func38, Try.ntmps38
 go_upto_region 1 with (fail)
 go_cut [15] (fun v15 wc => ∃ (kq : Nat) (x15_1 : Bool), v15 = .bool x15_1 ∧ Aside0 (berthref02_IsName.j0 kq a0 x15_1 = some r) ∧ Aside0 (kq ≤ k) ∧ Drawn0 w wc)
 case first =>
  have H := HC2.out
  clear HC2
  by_cases c3 : (a0.size : Int) < 1
  ·
   rw [if_pos c3] at H
   have c3b0 : decide ((a0.size : Int) < 1) = true := decide_eq_true c3
   have c3b1 : decide (a0.size < 1) = true := decide_eq_true (by omega)
   clear c3
   (first | rw [c3b0] | (simp only [i64_w, i32_w]; rw [c3b0]) | skip)
   have H' := Aside0.mk H
   clear H
   go_wp2
   go_meet
   case rel => exact ⟨_, (true), (by first | rfl | (simp; done) | (simp [*]; done) | (simp only [i64_w]; done) | (simp [i64_w, Int.tdiv_eq_ediv_of_nonneg]; done)), H', ⟨by first | omega | exact Nat.le_refl _⟩, by repeat (first | exact Drawn0.refl _ | apply Drawn0.step)⟩
  ·
   rw [if_neg c3] at H
   have c3b0 : decide ((a0.size : Int) < 1) = false := decide_eq_false c3
   have c3b1 : decide (a0.size < 1) = false := decide_eq_false (by omega)
   clear c3
   (first | rw [c3b0] | (simp only [i64_w, i32_w]; rw [c3b0]) | skip)
   have H' := Aside0.mk H
   clear H
   go_wp2
   go_meet
   case rel => exact ⟨_, (decide ((a0.size : Int) > 32)), (by first | rfl | (simp; done) | (simp [*]; done) | (simp only [i64_w]; done) | (simp [i64_w, Int.tdiv_eq_ediv_of_nonneg]; done)), H', ⟨by first | omega | exact Nat.le_refl _⟩, by repeat (first | exact Drawn0.refl _ | apply Drawn0.step)⟩
 case rest =>
  clear HC2
  try clear p2
  try clear c3
  try clear c3b0
  try clear c3b1
  obtain ⟨kq, x15_1, rfl, HA, HJ1, ⟨mc1, rfl⟩⟩ := hcut
  cases kq with
  | zero => exact absurd HA.out (by simp [berthref02_IsName.j0])
  | succ kj1 =>
   have H := HA.out
   clear HA
   simp only [berthref02_IsName.j0] at H
   by_cases c4 : x15_1 = true
   ·
    subst c4
    have H1 : (some false) = some r := by rw [if_pos rfl] at H; exact H
    clear H
    have H := H1
    clear H1
    obtain rfl := Option.some.inj H
    go_wp2
    go_ret
    exact ⟨by first | rfl | (simp; done) | (simp [*]; done) | (simp only [i64_w]; done) | (simp [i64_w, Int.tdiv_eq_ediv_of_nonneg]; done), by repeat (first | exact Drawn0.refl _ | apply Drawn0.step)⟩
   ·
    replace c4 := Bool.eq_false_iff.mpr c4
    subst c4
    have H1 : (berthref02_IsName.l0 kj1 a0 0) = some r := by rw [if_neg (show ¬ (false = true) by decide)] at H; exact H
    clear H
    have H := H1
    clear H1
    have H' := Aside0.mk H
    clear H
    go_wp2
    go_loopg [3] kj1 (fun kq v3 w' => ∃ (x3_2 : Int), v3 = .int .i64 x3_2 ∧ Aside0 (berthref02_IsName.l0 kq a0 x3_2 = some r) ∧ Aside0 (kq ≤ kj1) ∧ Drawn0 w w')
    case atStart => exact ⟨(0), (by first | rfl | (simp; done) | (simp [*]; done) | (simp only [i64_w]; done) | (simp [i64_w, Int.tdiv_eq_ediv_of_nonneg]; done)), H', ⟨Nat.le_refl _⟩, by repeat (first | exact Drawn0.refl _ | apply Drawn0.step)⟩
    case round =>
     clear H'
     try clear c1
     try clear p2
     try clear c3
     try clear c3b0
     try clear c3b1
     try clear c4
     try clear p2
     obtain ⟨x3_2, rfl, HA, HK2, ⟨m2, rfl⟩⟩ := hrel
     cases gk with
     | zero => exact absurd HA.out (by simp [berthref02_IsName.l0])
     | succ k2 =>
      have H := HA.out
      clear HA
      simp only [berthref02_IsName.l0] at H
      by_cases c5 : x3_2 < (a0.size : Int)
      ·
       rw [if_pos c5] at H
       have c5b0 : decide (x3_2 < (a0.size : Int)) = true := decide_eq_true c5
       clear c5
       by_cases c6 : 0 ≤ x3_2
       ·
        rw [if_pos c6] at H
        have c6b0 : decide (0 ≤ x3_2) = true := decide_eq_true c6
        clear c6
        by_cases c8 : (bt a0 x3_2) ≥ 97
        ·
         rw [if_pos c8] at H
         have c8b0 : decide (97 ≤ (bt a0 x3_2)) = true := decide_eq_true c8
         clear c8
         by_cases c9 : (bt a0 x3_2) ≥ 48
         ·
          rw [if_pos c9] at H
          have c9b0 : decide (48 ≤ (bt a0 x3_2)) = true := decide_eq_true c9
          clear c9
          by_cases c10 : (bt a0 x3_2) = 45
          ·
           rw [if_pos c10] at H
           have c10b0 : ((bt a0 x3_2) == 45) = true := beq_iff_eq.mpr c10
           have c10b1 : ((bt a0 x3_2) != 45) = false := bne_eq_false_iff_eq.mpr c10
           clear c10
           by_cases c11 : x3_2 = 0
           ·
            rw [if_pos c11] at H
            have c11b0 : (x3_2 == 0) = true := beq_iff_eq.mpr c11
            have c11b1 : (x3_2 != 0) = false := bne_eq_false_iff_eq.mpr c11
            clear c11
            by_cases c12 : ((bt a0 x3_2) ≤ 122)
            ·
             rw [if_pos c12] at H
             have c12b0 : decide ((bt a0 x3_2) ≤ 122) = true := decide_eq_true c12
             clear c12
             by_cases c13 : x3_2 = (wrap64 ((a0.size : Int) - 1))
             ·
              rw [if_pos c13] at H
              have c13b0 : (x3_2 == (wrap64 ((a0.size : Int) - 1))) = true := beq_iff_eq.mpr c13
              have c13b1 : (x3_2 != (wrap64 ((a0.size : Int) - 1))) = false := bne_eq_false_iff_eq.mpr c13
              (try (have c13b2 : (x3_2 == (IntKind.i64.wrap ((a0.size : Int) - 1))) = true := by have h_ : (x3_2 == (wrap64 ((a0.size : Int) - 1))) = true := beq_iff_eq.mpr c13; simp only [i64_w]; exact h_))
              (try (have c13b3 : (x3_2 != (IntKind.i64.wrap ((a0.size : Int) - 1))) = false := by have h_ : (x3_2 != (wrap64 ((a0.size : Int) - 1))) = false := bne_eq_false_iff_eq.mpr c13; simp only [i64_w]; exact h_))
              clear c13
              have H' := Aside0.mk H
              clear H
              have p7 : 0 ≤ (x3_2 : Int) := of_decide_eq_true (by first | (with_reducible assumption) | assumption)
              have q7 : x3_2 < (a0.size : Int) := of_decide_eq_true (by first | (with_reducible assumption) | assumption)
              have hx7 := bt_at a0 x3_2
              replace p7 := eq_true p7
              replace q7 := eq_true q7
              go_wp2
              go_roundg k2
              case measure => have := HJ1.out; have := HK2.out; omega
              case rel => exact ⟨(wrap64 (x3_2 + 1)), (by first | rfl | (simp; done) | (simp [*]; done) | (simp only [i64_w]; done) | (simp [i64_w, Int.tdiv_eq_ediv_of_nonneg]; done)), H', ⟨by have := HJ1.out; have := HK2.out; omega⟩, by repeat (first | exact Drawn0.refl _ | apply Drawn0.step)⟩
             ·
              rw [if_neg c13] at H
              have c13b0 : (x3_2 == (wrap64 ((a0.size : Int) - 1))) = false := beq_eq_false_iff_ne.mpr c13
              have c13b1 : (x3_2 != (wrap64 ((a0.size : Int) - 1))) = true := bne_iff_ne.mpr c13
              (try (have c13b2 : (x3_2 == (IntKind.i64.wrap ((a0.size : Int) - 1))) = false := by have h_ : (x3_2 == (wrap64 ((a0.size : Int) - 1))) = false := beq_eq_false_iff_ne.mpr c13; simp only [i64_w]; exact h_))
              (try (have c13b3 : (x3_2 != (IntKind.i64.wrap ((a0.size : Int) - 1))) = true := by have h_ : (x3_2 != (wrap64 ((a0.size : Int) - 1))) = true := bne_iff_ne.mpr c13; simp only [i64_w]; exact h_))
              have H' := Aside0.mk H
              clear H
              have p7 : 0 ≤ (x3_2 : Int) := of_decide_eq_true (by first | (with_reducible assumption) | assumption)
              have q7 : x3_2 < (a0.size : Int) := of_decide_eq_true (by first | (with_reducible assumption) | assumption)
              have hx7 := bt_at a0 x3_2
              replace p7 := eq_true p7
              replace q7 := eq_true q7
              go_wp2
              go_roundg k2
              case measure => have := HJ1.out; have := HK2.out; omega
              case rel => exact ⟨(wrap64 (x3_2 + 1)), (by first | rfl | (simp; done) | (simp [*]; done) | (simp only [i64_w]; done) | (simp [i64_w, Int.tdiv_eq_ediv_of_nonneg]; done)), H', ⟨by have := HJ1.out; have := HK2.out; omega⟩, by repeat (first | exact Drawn0.refl _ | apply Drawn0.step)⟩
            ·
             rw [if_neg c12] at H
             have c12b0 : decide ((bt a0 x3_2) ≤ 122) = false := decide_eq_false c12
             clear c12
             obtain rfl := Option.some.inj H
             have p7 : 0 ≤ (x3_2 : Int) := of_decide_eq_true (by first | (with_reducible assumption) | assumption)
             have q7 : x3_2 < (a0.size : Int) := of_decide_eq_true (by first | (with_reducible assumption) | assumption)
             have hx7 := bt_at a0 x3_2
             replace p7 := eq_true p7
             replace q7 := eq_true q7
             go_wp2
             go_ret
             exact ⟨by first | rfl | (simp; done) | (simp [*]; done) | (simp only [i64_w]; done) | (simp [i64_w, Int.tdiv_eq_ediv_of_nonneg]; done), by repeat (first | exact Drawn0.refl _ | apply Drawn0.step)⟩
           ·
            rw [if_neg c11] at H
            have c11b0 : (x3_2 == 0) = false := beq_eq_false_iff_ne.mpr c11
            have c11b1 : (x3_2 != 0) = true := bne_iff_ne.mpr c11
            by_cases c14 : x3_2 = (wrap64 ((a0.size : Int) - 1))
            ·
             rw [if_pos c14] at H
             have c14b0 : (x3_2 == (wrap64 ((a0.size : Int) - 1))) = true := beq_iff_eq.mpr c14
             have c14b1 : (x3_2 != (wrap64 ((a0.size : Int) - 1))) = false := bne_eq_false_iff_eq.mpr c14
             (try (have c14b2 : (x3_2 == (IntKind.i64.wrap ((a0.size : Int) - 1))) = true := by have h_ : (x3_2 == (wrap64 ((a0.size : Int) - 1))) = true := beq_iff_eq.mpr c14; simp only [i64_w]; exact h_))
             (try (have c14b3 : (x3_2 != (IntKind.i64.wrap ((a0.size : Int) - 1))) = false := by have h_ : (x3_2 != (wrap64 ((a0.size : Int) - 1))) = false := bne_eq_false_iff_eq.mpr c14; simp only [i64_w]; exact h_))
             clear c14
             by_cases c15 : ((bt a0 x3_2) ≤ 122)
             ·
              rw [if_pos c15] at H
              have c15b0 : decide ((bt a0 x3_2) ≤ 122) = true := decide_eq_true c15
              clear c15
              have H' := Aside0.mk H
              clear H
              have p7 : 0 ≤ (x3_2 : Int) := of_decide_eq_true (by first | (with_reducible assumption) | assumption)
              have q7 : x3_2 < (a0.size : Int) := of_decide_eq_true (by first | (with_reducible assumption) | assumption)
              have hx7 := bt_at a0 x3_2
              replace p7 := eq_true p7
              replace q7 := eq_true q7
              go_wp2
              go_roundg k2
              case measure => have := HJ1.out; have := HK2.out; omega
              case rel => exact ⟨(wrap64 (x3_2 + 1)), (by first | rfl | (simp; done) | (simp [*]; done) | (simp only [i64_w]; done) | (simp [i64_w, Int.tdiv_eq_ediv_of_nonneg]; done)), H', ⟨by have := HJ1.out; have := HK2.out; omega⟩, by repeat (first | exact Drawn0.refl _ | apply Drawn0.step)⟩
             ·
              rw [if_neg c15] at H
              have c15b0 : decide ((bt a0 x3_2) ≤ 122) = false := decide_eq_false c15
              clear c15
              by_cases c16 : ((bt a0 x3_2) ≤ 57)
              ·
               rw [if_pos c16] at H
               have c16b0 : decide ((bt a0 x3_2) ≤ 57) = true := decide_eq_true c16
               clear c16
               have H' := Aside0.mk H
               clear H
               have p7 : 0 ≤ (x3_2 : Int) := of_decide_eq_true (by first | (with_reducible assumption) | assumption)
               have q7 : x3_2 < (a0.size : Int) := of_decide_eq_true (by first | (with_reducible assumption) | assumption)
               have hx7 := bt_at a0 x3_2
               replace p7 := eq_true p7
               replace q7 := eq_true q7
               go_wp2
               go_roundg k2
               case measure => have := HJ1.out; have := HK2.out; omega
               case rel => exact ⟨(wrap64 (x3_2 + 1)), (by first | rfl | (simp; done) | (simp [*]; done) | (simp only [i64_w]; done) | (simp [i64_w, Int.tdiv_eq_ediv_of_nonneg]; done)), H', ⟨by have := HJ1.out; have := HK2.out; omega⟩, by repeat (first | exact Drawn0.refl _ | apply Drawn0.step)⟩
              ·
               rw [if_neg c16] at H
               have c16b0 : decide ((bt a0 x3_2) ≤ 57) = false := decide_eq_false c16
               clear c16
               obtain rfl := Option.some.inj H
               have p7 : 0 ≤ (x3_2 : Int) := of_decide_eq_true (by first | (with_reducible assumption) | assumption)
               have q7 : x3_2 < (a0.size : Int) := of_decide_eq_true (by first | (with_reducible assumption) | assumption)
               have hx7 := bt_at a0 x3_2
               replace p7 := eq_true p7
               replace q7 := eq_true q7
               go_wp2
               go_ret
               exact ⟨by first | rfl | (simp; done) | (simp [*]; done) | (simp only [i64_w]; done) | (simp [i64_w, Int.tdiv_eq_ediv_of_nonneg]; done), by repeat (first | exact Drawn0.refl _ | apply Drawn0.step)⟩
            ·
             rw [if_neg c14] at H
             have c14b0 : (x3_2 == (wrap64 ((a0.size : Int) - 1))) = false := beq_eq_false_iff_ne.mpr c14
             have c14b1 : (x3_2 != (wrap64 ((a0.size : Int) - 1))) = true := bne_iff_ne.mpr c14
             (try (have c14b2 : (x3_2 == (IntKind.i64.wrap ((a0.size : Int) - 1))) = false := by have h_ : (x3_2 == (wrap64 ((a0.size : Int) - 1))) = false := beq_eq_false_iff_ne.mpr c14; simp only [i64_w]; exact h_))
             (try (have c14b3 : (x3_2 != (IntKind.i64.wrap ((a0.size : Int) - 1))) = true := by have h_ : (x3_2 != (wrap64 ((a0.size : Int) - 1))) = true := bne_iff_ne.mpr c14; simp only [i64_w]; exact h_))
             by_cases c17 : ((bt a0 x3_2) ≤ 122)
             ·
              rw [if_pos c17] at H
              have c17b0 : decide ((bt a0 x3_2) ≤ 122) = true := decide_eq_true c17
              clear c17
              have H' := Aside0.mk H
              clear H
              have p7 : 0 ≤ (x3_2 : Int) := of_decide_eq_true (by first | (with_reducible assumption) | assumption)
              have q7 : x3_2 < (a0.size : Int) := of_decide_eq_true (by first | (with_reducible assumption) | assumption)
              have hx7 := bt_at a0 x3_2
              replace p7 := eq_true p7
              replace q7 := eq_true q7
              go_wp2
              go_roundg k2
              case measure => have := HJ1.out; have := HK2.out; omega
              case rel => exact ⟨(wrap64 (x3_2 + 1)), (by first | rfl | (simp; done) | (simp [*]; done) | (simp only [i64_w]; done) | (simp [i64_w, Int.tdiv_eq_ediv_of_nonneg]; done)), H', ⟨by have := HJ1.out; have := HK2.out; omega⟩, by repeat (first | exact Drawn0.refl _ | apply Drawn0.step)⟩
             ·
              rw [if_neg c17] at H
              have c17b0 : decide ((bt a0 x3_2) ≤ 122) = false := decide_eq_false c17
              clear c17
              by_cases c18 : ((bt a0 x3_2) ≤ 57)
              ·
               rw [if_pos c18] at H
               have c18b0 : decide ((bt a0 x3_2) ≤ 57) = true := decide_eq_true c18
               clear c18
               have H' := Aside0.mk H
               clear H
               have p7 : 0 ≤ (x3_2 : Int) := of_decide_eq_true (by first | (with_reducible assumption) | assumption)
               have q7 : x3_2 < (a0.size : Int) := of_decide_eq_true (by first | (with_reducible assumption) | assumption)
               have hx7 := bt_at a0 x3_2
               replace p7 := eq_true p7
               replace q7 := eq_true q7
               go_wp2
               go_roundg k2
               case measure => have := HJ1.out; have := HK2.out; omega
               case rel => exact ⟨(wrap64 (x3_2 + 1)), (by first | rfl | (simp; done) | (simp [*]; done) | (simp only [i64_w]; done) | (simp [i64_w, Int.tdiv_eq_ediv_of_nonneg]; done)), H', ⟨by have := HJ1.out; have := HK2.out; omega⟩, by repeat (first | exact Drawn0.refl _ | apply Drawn0.step)⟩
              ·
               rw [if_neg c18] at H
               have c18b0 : decide ((bt a0 x3_2) ≤ 57) = false := decide_eq_false c18
               clear c18
               have H' := Aside0.mk H
               clear H
               have p7 : 0 ≤ (x3_2 : Int) := of_decide_eq_true (by first | (with_reducible assumption) | assumption)
               have q7 : x3_2 < (a0.size : Int) := of_decide_eq_true (by first | (with_reducible assumption) | assumption)
               have hx7 := bt_at a0 x3_2
               replace p7 := eq_true p7
               replace q7 := eq_true q7
               go_wp2
               go_roundg k2
               case measure => have := HJ1.out; have := HK2.out; omega
               case rel => exact ⟨(wrap64 (x3_2 + 1)), (by first | rfl | (simp; done) | (simp [*]; done) | (simp only [i64_w]; done) | (simp [i64_w, Int.tdiv_eq_ediv_of_nonneg]; done)), H', ⟨by have := HJ1.out; have := HK2.out; omega⟩, by repeat (first | exact Drawn0.refl _ | apply Drawn0.step)⟩
          ·
           rw [if_neg c10] at H
           have c10b0 : ((bt a0 x3_2) == 45) = false := beq_eq_false_iff_ne.mpr c10
           have c10b1 : ((bt a0 x3_2) != 45) = true := bne_iff_ne.mpr c10
           by_cases c19 : (bt a0 x3_2) = 46
           ·
            rw [if_pos c19] at H
            have c19b0 : ((bt a0 x3_2) == 46) = true := beq_iff_eq.mpr c19
            have c19b1 : ((bt a0 x3_2) != 46) = false := bne_eq_false_iff_eq.mpr c19
            clear c19
            by_cases c20 : x3_2 = 0
            ·
             rw [if_pos c20] at H
             have c20b0 : (x3_2 == 0) = true := beq_iff_eq.mpr c20
             have c20b1 : (x3_2 != 0) = false := bne_eq_false_iff_eq.mpr c20
             clear c20
             by_cases c21 : ((bt a0 x3_2) ≤ 122)
             ·
              rw [if_pos c21] at H
              have c21b0 : decide ((bt a0 x3_2) ≤ 122) = true := decide_eq_true c21
              clear c21
              by_cases c22 : x3_2 = (wrap64 ((a0.size : Int) - 1))
              ·
               rw [if_pos c22] at H
               have c22b0 : (x3_2 == (wrap64 ((a0.size : Int) - 1))) = true := beq_iff_eq.mpr c22
               have c22b1 : (x3_2 != (wrap64 ((a0.size : Int) - 1))) = false := bne_eq_false_iff_eq.mpr c22
               (try (have c22b2 : (x3_2 == (IntKind.i64.wrap ((a0.size : Int) - 1))) = true := by have h_ : (x3_2 == (wrap64 ((a0.size : Int) - 1))) = true := beq_iff_eq.mpr c22; simp only [i64_w]; exact h_))
               (try (have c22b3 : (x3_2 != (IntKind.i64.wrap ((a0.size : Int) - 1))) = false := by have h_ : (x3_2 != (wrap64 ((a0.size : Int) - 1))) = false := bne_eq_false_iff_eq.mpr c22; simp only [i64_w]; exact h_))
               clear c22
               have H' := Aside0.mk H
               clear H
               have p7 : 0 ≤ (x3_2 : Int) := of_decide_eq_true (by first | (with_reducible assumption) | assumption)
               have q7 : x3_2 < (a0.size : Int) := of_decide_eq_true (by first | (with_reducible assumption) | assumption)
               have hx7 := bt_at a0 x3_2
               replace p7 := eq_true p7
               replace q7 := eq_true q7
               go_wp2
               go_roundg k2
               case measure => have := HJ1.out; have := HK2.out; omega
               case rel => exact ⟨(wrap64 (x3_2 + 1)), (by first | rfl | (simp; done) | (simp [*]; done) | (simp only [i64_w]; done) | (simp [i64_w, Int.tdiv_eq_ediv_of_nonneg]; done)), H', ⟨by have := HJ1.out; have := HK2.out; omega⟩, by repeat (first | exact Drawn0.refl _ | apply Drawn0.step)⟩
              ·
               rw [if_neg c22] at H
               have c22b0 : (x3_2 == (wrap64 ((a0.size : Int) - 1))) = false := beq_eq_false_iff_ne.mpr c22
               have c22b1 : (x3_2 != (wrap64 ((a0.size : Int) - 1))) = true := bne_iff_ne.mpr c22
               (try (have c22b2 : (x3_2 == (IntKind.i64.wrap ((a0.size : Int) - 1))) = false := by have h_ : (x3_2 == (wrap64 ((a0.size : Int) - 1))) = false := beq_eq_false_iff_ne.mpr c22; simp only [i64_w]; exact h_))
               (try (have c22b3 : (x3_2 != (IntKind.i64.wrap ((a0.size : Int) - 1))) = true := by have h_ : (x3_2 != (wrap64 ((a0.size : Int) - 1))) = true := bne_iff_ne.mpr c22; simp only [i64_w]; exact h_))
               have H' := Aside0.mk H
               clear H
               have p7 : 0 ≤ (x3_2 : Int) := of_decide_eq_true (by first | (with_reducible assumption) | assumption)
               have q7 : x3_2 < (a0.size : Int) := of_decide_eq_true (by first | (with_reducible assumption) | assumption)
               have hx7 := bt_at a0 x3_2
               replace p7 := eq_true p7
               replace q7 := eq_true q7
               go_wp2
               go_roundg k2
               case measure => have := HJ1.out; have := HK2.out; omega
               case rel => exact ⟨(wrap64 (x3_2 + 1)), (by first | rfl | (simp; done) | (simp [*]; done) | (simp only [i64_w]; done) | (simp [i64_w, Int.tdiv_eq_ediv_of_nonneg]; done)), H', ⟨by have := HJ1.out; have := HK2.out; omega⟩, by repeat (first | exact Drawn0.refl _ | apply Drawn0.step)⟩
             ·
              rw [if_neg c21] at H
              have c21b0 : decide ((bt a0 x3_2) ≤ 122) = false := decide_eq_false c21
              clear c21
              obtain rfl := Option.some.inj H
              have p7 : 0 ≤ (x3_2 : Int) := of_decide_eq_true (by first | (with_reducible assumption) | assumption)
              have q7 : x3_2 < (a0.size : Int) := of_decide_eq_true (by first | (with_reducible assumption) | assumption)
              have hx7 := bt_at a0 x3_2
              replace p7 := eq_true p7
              replace q7 := eq_true q7
              go_wp2
              go_ret
              exact ⟨by first | rfl | (simp; done) | (simp [*]; done) | (simp only [i64_w]; done) | (simp [i64_w, Int.tdiv_eq_ediv_of_nonneg]; done), by repeat (first | exact Drawn0.refl _ | apply Drawn0.step)⟩
            ·
             rw [if_neg c20] at H
             have c20b0 : (x3_2 == 0) = false := beq_eq_false_iff_ne.mpr c20
             have c20b1 : (x3_2 != 0) = true := bne_iff_ne.mpr c20
             by_cases c23 : x3_2 = (wrap64 ((a0.size : Int) - 1))
             ·
              rw [if_pos c23] at H
              have c23b0 : (x3_2 == (wrap64 ((a0.size : Int) - 1))) = true := beq_iff_eq.mpr c23
              have c23b1 : (x3_2 != (wrap64 ((a0.size : Int) - 1))) = false := bne_eq_false_iff_eq.mpr c23
              (try (have c23b2 : (x3_2 == (IntKind.i64.wrap ((a0.size : Int) - 1))) = true := by have h_ : (x3_2 == (wrap64 ((a0.size : Int) - 1))) = true := beq_iff_eq.mpr c23; simp only [i64_w]; exact h_))
              (try (have c23b3 : (x3_2 != (IntKind.i64.wrap ((a0.size : Int) - 1))) = false := by have h_ : (x3_2 != (wrap64 ((a0.size : Int) - 1))) = false := bne_eq_false_iff_eq.mpr c23; simp only [i64_w]; exact h_))
              clear c23
              by_cases c24 : ((bt a0 x3_2) ≤ 122)
              ·
               rw [if_pos c24] at H
               have c24b0 : decide ((bt a0 x3_2) ≤ 122) = true := decide_eq_true c24
               clear c24
               have H' := Aside0.mk H
               clear H
               have p7 : 0 ≤ (x3_2 : Int) := of_decide_eq_true (by first | (with_reducible assumption) | assumption)
               have q7 : x3_2 < (a0.size : Int) := of_decide_eq_true (by first | (with_reducible assumption) | assumption)
               have hx7 := bt_at a0 x3_2
               replace p7 := eq_true p7
               replace q7 := eq_true q7
               go_wp2
               go_roundg k2
               case measure => have := HJ1.out; have := HK2.out; omega
               case rel => exact ⟨(wrap64 (x3_2 + 1)), (by first | rfl | (simp; done) | (simp [*]; done) | (simp only [i64_w]; done) | (simp [i64_w, Int.tdiv_eq_ediv_of_nonneg]; done)), H', ⟨by have := HJ1.out; have := HK2.out; omega⟩, by repeat (first | exact Drawn0.refl _ | apply Drawn0.step)⟩
              ·
               rw [if_neg c24] at H
               have c24b0 : decide ((bt a0 x3_2) ≤ 122) = false := decide_eq_false c24
               clear c24
               by_cases c25 : ((bt a0 x3_2) ≤ 57)
               ·
                rw [if_pos c25] at H
                have c25b0 : decide ((bt a0 x3_2) ≤ 57) = true := decide_eq_true c25
                clear c25
                have H' := Aside0.mk H
                clear H
                have p7 : 0 ≤ (x3_2 : Int) := of_decide_eq_true (by first | (with_reducible assumption) | assumption)
                have q7 : x3_2 < (a0.size : Int) := of_decide_eq_true (by first | (with_reducible assumption) | assumption)
                have hx7 := bt_at a0 x3_2
                replace p7 := eq_true p7
                replace q7 := eq_true q7
                go_wp2
                go_roundg k2
                case measure => have := HJ1.out; have := HK2.out; omega
                case rel => exact ⟨(wrap64 (x3_2 + 1)), (by first | rfl | (simp; done) | (simp [*]; done) | (simp only [i64_w]; done) | (simp [i64_w, Int.tdiv_eq_ediv_of_nonneg]; done)), H', ⟨by have := HJ1.out; have := HK2.out; omega⟩, by repeat (first | exact Drawn0.refl _ | apply Drawn0.step)⟩
               ·
                rw [if_neg c25] at H
                have c25b0 : decide ((bt a0 x3_2) ≤ 57) = false := decide_eq_false c25
                clear c25
                obtain rfl := Option.some.inj H
                have p7 : 0 ≤ (x3_2 : Int) := of_decide_eq_true (by first | (with_reducible assumption) | assumption)
                have q7 : x3_2 < (a0.size : Int) := of_decide_eq_true (by first | (with_reducible assumption) | assumption)
                have hx7 := bt_at a0 x3_2
                replace p7 := eq_true p7
                replace q7 := eq_true q7
                go_wp2
                go_ret
                exact ⟨by first | rfl | (simp; done) | (simp [*]; done) | (simp only [i64_w]; done) | (simp [i64_w, Int.tdiv_eq_ediv_of_nonneg]; done), by repeat (first | exact Drawn0.refl _ | apply Drawn0.step)⟩
             ·
              rw [if_neg c23] at H
              have c23b0 : (x3_2 == (wrap64 ((a0.size : Int) - 1))) = false := beq_eq_false_iff_ne.mpr c23
              have c23b1 : (x3_2 != (wrap64 ((a0.size : Int) - 1))) = true := bne_iff_ne.mpr c23
              (try (have c23b2 : (x3_2 == (IntKind.i64.wrap ((a0.size : Int) - 1))) = false := by have h_ : (x3_2 == (wrap64 ((a0.size : Int) - 1))) = false := beq_eq_false_iff_ne.mpr c23; simp only [i64_w]; exact h_))
              (try (have c23b3 : (x3_2 != (IntKind.i64.wrap ((a0.size : Int) - 1))) = true := by have h_ : (x3_2 != (wrap64 ((a0.size : Int) - 1))) = true := bne_iff_ne.mpr c23; simp only [i64_w]; exact h_))
              by_cases c26 : ((bt a0 x3_2) ≤ 122)
              ·
               rw [if_pos c26] at H
               have c26b0 : decide ((bt a0 x3_2) ≤ 122) = true := decide_eq_true c26
               clear c26
               have H' := Aside0.mk H
               clear H
               have p7 : 0 ≤ (x3_2 : Int) := of_decide_eq_true (by first | (with_reducible assumption) | assumption)
               have q7 : x3_2 < (a0.size : Int) := of_decide_eq_true (by first | (with_reducible assumption) | assumption)
               have hx7 := bt_at a0 x3_2
               replace p7 := eq_true p7
               replace q7 := eq_true q7
               go_wp2
               go_roundg k2
               case measure => have := HJ1.out; have := HK2.out; omega
               case rel => exact ⟨(wrap64 (x3_2 + 1)), (by first | rfl | (simp; done) | (simp [*]; done) | (simp only [i64_w]; done) | (simp [i64_w, Int.tdiv_eq_ediv_of_nonneg]; done)), H', ⟨by have := HJ1.out; have := HK2.out; omega⟩, by repeat (first | exact Drawn0.refl _ | apply Drawn0.step)⟩
              ·
               rw [if_neg c26] at H
               have c26b0 : decide ((bt a0 x3_2) ≤ 122) = false := decide_eq_false c26
               clear c26
               by_cases c27 : ((bt a0 x3_2) ≤ 57)
               ·
                rw [if_pos c27] at H
                have c27b0 : decide ((bt a0 x3_2) ≤ 57) = true := decide_eq_true c27
                clear c27
                have H' := Aside0.mk H
                clear H
                have p7 : 0 ≤ (x3_2 : Int) := of_decide_eq_true (by first | (with_reducible assumption) | assumption)
                have q7 : x3_2 < (a0.size : Int) := of_decide_eq_true (by first | (with_reducible assumption) | assumption)
                have hx7 := bt_at a0 x3_2
                replace p7 := eq_true p7
                replace q7 := eq_true q7
                go_wp2
                go_roundg k2
                case measure => have := HJ1.out; have := HK2.out; omega
                case rel => exact ⟨(wrap64 (x3_2 + 1)), (by first | rfl | (simp; done) | (simp [*]; done) | (simp only [i64_w]; done) | (simp [i64_w, Int.tdiv_eq_ediv_of_nonneg]; done)), H', ⟨by have := HJ1.out; have := HK2.out; omega⟩, by repeat (first | exact Drawn0.refl _ | apply Drawn0.step)⟩
               ·
                rw [if_neg c27] at H
                have c27b0 : decide ((bt a0 x3_2) ≤ 57) = false := decide_eq_false c27
                clear c27
                have H' := Aside0.mk H
                clear H
                have p7 : 0 ≤ (x3_2 : Int) := of_decide_eq_true (by first | (with_reducible assumption) | assumption)
                have q7 : x3_2 < (a0.size : Int) := of_decide_eq_true (by first | (with_reducible assumption) | assumption)
                have hx7 := bt_at a0 x3_2
                replace p7 := eq_true p7
                replace q7 := eq_true q7
                go_wp2
                go_roundg k2
                case measure => have := HJ1.out; have := HK2.out; omega
                case rel => exact ⟨(wrap64 (x3_2 + 1)), (by first | rfl | (simp; done) | (simp [*]; done) | (simp only [i64_w]; done) | (simp [i64_w, Int.tdiv_eq_ediv_of_nonneg]; done)), H', ⟨by have := HJ1.out; have := HK2.out; omega⟩, by repeat (first | exact Drawn0.refl _ | apply Drawn0.step)⟩
           ·
            rw [if_neg c19] at H
            have c19b0 : ((bt a0 x3_2) == 46) = false := beq_eq_false_iff_ne.mpr c19
            have c19b1 : ((bt a0 x3_2) != 46) = true := bne_iff_ne.mpr c19
            by_cases c28 : x3_2 = 0
            ·
             rw [if_pos c28] at H
             have c28b0 : (x3_2 == 0) = true := beq_iff_eq.mpr c28
             have c28b1 : (x3_2 != 0) = false := bne_eq_false_iff_eq.mpr c28
             clear c28
             by_cases c29 : ((bt a0 x3_2) ≤ 122)
             ·
              rw [if_pos c29] at H
              have c29b0 : decide ((bt a0 x3_2) ≤ 122) = true := decide_eq_true c29
              clear c29
              by_cases c30 : x3_2 = (wrap64 ((a0.size : Int) - 1))
              ·
               rw [if_pos c30] at H
               have c30b0 : (x3_2 == (wrap64 ((a0.size : Int) - 1))) = true := beq_iff_eq.mpr c30
               have c30b1 : (x3_2 != (wrap64 ((a0.size : Int) - 1))) = false := bne_eq_false_iff_eq.mpr c30
               (try (have c30b2 : (x3_2 == (IntKind.i64.wrap ((a0.size : Int) - 1))) = true := by have h_ : (x3_2 == (wrap64 ((a0.size : Int) - 1))) = true := beq_iff_eq.mpr c30; simp only [i64_w]; exact h_))
               (try (have c30b3 : (x3_2 != (IntKind.i64.wrap ((a0.size : Int) - 1))) = false := by have h_ : (x3_2 != (wrap64 ((a0.size : Int) - 1))) = false := bne_eq_false_iff_eq.mpr c30; simp only [i64_w]; exact h_))
               clear c30
               have H' := Aside0.mk H
               clear H
               have p7 : 0 ≤ (x3_2 : Int) := of_decide_eq_true (by first | (with_reducible assumption) | assumption)
               have q7 : x3_2 < (a0.size : Int) := of_decide_eq_true (by first | (with_reducible assumption) | assumption)
               have hx7 := bt_at a0 x3_2
               replace p7 := eq_true p7
               replace q7 := eq_true q7
               go_wp2
               go_roundg k2
               case measure => have := HJ1.out; have := HK2.out; omega
               case rel => exact ⟨(wrap64 (x3_2 + 1)), (by first | rfl | (simp; done) | (simp [*]; done) | (simp only [i64_w]; done) | (simp [i64_w, Int.tdiv_eq_ediv_of_nonneg]; done)), H', ⟨by have := HJ1.out; have := HK2.out; omega⟩, by repeat (first | exact Drawn0.refl _ | apply Drawn0.step)⟩
              ·
               rw [if_neg c30] at H
               have c30b0 : (x3_2 == (wrap64 ((a0.size : Int) - 1))) = false := beq_eq_false_iff_ne.mpr c30
               have c30b1 : (x3_2 != (wrap64 ((a0.size : Int) - 1))) = true := bne_iff_ne.mpr c30
               (try (have c30b2 : (x3_2 == (IntKind.i64.wrap ((a0.size : Int) - 1))) = false := by have h_ : (x3_2 == (wrap64 ((a0.size : Int) - 1))) = false := beq_eq_false_iff_ne.mpr c30; simp only [i64_w]; exact h_))
               (try (have c30b3 : (x3_2 != (IntKind.i64.wrap ((a0.size : Int) - 1))) = true := by have h_ : (x3_2 != (wrap64 ((a0.size : Int) - 1))) = true := bne_iff_ne.mpr c30; simp only [i64_w]; exact h_))
               have H' := Aside0.mk H
               clear H
               have p7 : 0 ≤ (x3_2 : Int) := of_decide_eq_true (by first | (with_reducible assumption) | assumption)
               have q7 : x3_2 < (a0.size : Int) := of_decide_eq_true (by first | (with_reducible assumption) | assumption)
               have hx7 := bt_at a0 x3_2
               replace p7 := eq_true p7
               replace q7 := eq_true q7
               go_wp2
               go_roundg k2
               case measure => have := HJ1.out; have := HK2.out; omega
               case rel => exact ⟨(wrap64 (x3_2 + 1)), (by first | rfl | (simp; done) | (simp [*]; done) | (simp only [i64_w]; done) | (simp [i64_w, Int.tdiv_eq_ediv_of_nonneg]; done)), H', ⟨by have := HJ1.out; have := HK2.out; omega⟩, by repeat (first | exact Drawn0.refl _ | apply Drawn0.step)⟩
             ·
              rw [if_neg c29] at H
              have c29b0 : decide ((bt a0 x3_2) ≤ 122) = false := decide_eq_false c29
              clear c29
              obtain rfl := Option.some.inj H
              have p7 : 0 ≤ (x3_2 : Int) := of_decide_eq_true (by first | (with_reducible assumption) | assumption)
              have q7 : x3_2 < (a0.size : Int) := of_decide_eq_true (by first | (with_reducible assumption) | assumption)
              have hx7 := bt_at a0 x3_2
              replace p7 := eq_true p7
              replace q7 := eq_true q7
              go_wp2
              go_ret
              exact ⟨by first | rfl | (simp; done) | (simp [*]; done) | (simp only [i64_w]; done) | (simp [i64_w, Int.tdiv_eq_ediv_of_nonneg]; done), by repeat (first | exact Drawn0.refl _ | apply Drawn0.step)⟩
            ·
             rw [if_neg c28] at H
             have c28b0 : (x3_2 == 0) = false := beq_eq_false_iff_ne.mpr c28
             have c28b1 : (x3_2 != 0) = true := bne_iff_ne.mpr c28
             by_cases c31 : x3_2 = (wrap64 ((a0.size : Int) - 1))
             ·
              rw [if_pos c31] at H
              have c31b0 : (x3_2 == (wrap64 ((a0.size : Int) - 1))) = true := beq_iff_eq.mpr c31
              have c31b1 : (x3_2 != (wrap64 ((a0.size : Int) - 1))) = false := bne_eq_false_iff_eq.mpr c31
              (try (have c31b2 : (x3_2 == (IntKind.i64.wrap ((a0.size : Int) - 1))) = true := by have h_ : (x3_2 == (wrap64 ((a0.size : Int) - 1))) = true := beq_iff_eq.mpr c31; simp only [i64_w]; exact h_))
              (try (have c31b3 : (x3_2 != (IntKind.i64.wrap ((a0.size : Int) - 1))) = false := by have h_ : (x3_2 != (wrap64 ((a0.size : Int) - 1))) = false := bne_eq_false_iff_eq.mpr c31; simp only [i64_w]; exact h_))
              clear c31
              by_cases c32 : ((bt a0 x3_2) ≤ 122)
              ·
               rw [if_pos c32] at H
               have c32b0 : decide ((bt a0 x3_2) ≤ 122) = true := decide_eq_true c32
               clear c32
               have H' := Aside0.mk H
               clear H
               have p7 : 0 ≤ (x3_2 : Int) := of_decide_eq_true (by first | (with_reducible assumption) | assumption)
               have q7 : x3_2 < (a0.size : Int) := of_decide_eq_true (by first | (with_reducible assumption) | assumption)
               have hx7 := bt_at a0 x3_2
               replace p7 := eq_true p7
               replace q7 := eq_true q7
               go_wp2
               go_roundg k2
               case measure => have := HJ1.out; have := HK2.out; omega
               case rel => exact ⟨(wrap64 (x3_2 + 1)), (by first | rfl | (simp; done) | (simp [*]; done) | (simp only [i64_w]; done) | (simp [i64_w, Int.tdiv_eq_ediv_of_nonneg]; done)), H', ⟨by have := HJ1.out; have := HK2.out; omega⟩, by repeat (first | exact Drawn0.refl _ | apply Drawn0.step)⟩
              ·
               rw [if_neg c32] at H
               have c32b0 : decide ((bt a0 x3_2) ≤ 122) = false := decide_eq_false c32
               clear c32
               by_cases c33 : ((bt a0 x3_2) ≤ 57)
               ·
                rw [if_pos c33] at H
                have c33b0 : decide ((bt a0 x3_2) ≤ 57) = true := decide_eq_true c33
                clear c33
                have H' := Aside0.mk H
                clear H
                have p7 : 0 ≤ (x3_2 : Int) := of_decide_eq_true (by first | (with_reducible assumption) | assumption)
                have q7 : x3_2 < (a0.size : Int) := of_decide_eq_true (by first | (with_reducible assumption) | assumption)
                have hx7 := bt_at a0 x3_2
                replace p7 := eq_true p7
                replace q7 := eq_true q7
                go_wp2
                go_roundg k2
                case measure => have := HJ1.out; have := HK2.out; omega
                case rel => exact ⟨(wrap64 (x3_2 + 1)), (by first | rfl | (simp; done) | (simp [*]; done) | (simp only [i64_w]; done) | (simp [i64_w, Int.tdiv_eq_ediv_of_nonneg]; done)), H', ⟨by have := HJ1.out; have := HK2.out; omega⟩, by repeat (first | exact Drawn0.refl _ | apply Drawn0.step)⟩
               ·
                rw [if_neg c33] at H
                have c33b0 : decide ((bt a0 x3_2) ≤ 57) = false := decide_eq_false c33
                clear c33
                obtain rfl := Option.some.inj H
                have p7 : 0 ≤ (x3_2 : Int) := of_decide_eq_true (by first | (with_reducible assumption) | assumption)
                have q7 : x3_2 < (a0.size : Int) := of_decide_eq_true (by first | (with_reducible assumption) | assumption)
                have hx7 := bt_at a0 x3_2
                replace p7 := eq_true p7
                replace q7 := eq_true q7
                go_wp2
                go_ret
                exact ⟨by first | rfl | (simp; done) | (simp [*]; done) | (simp only [i64_w]; done) | (simp [i64_w, Int.tdiv_eq_ediv_of_nonneg]; done), by repeat (first | exact Drawn0.refl _ | apply Drawn0.step)⟩
             ·
              rw [if_neg c31] at H
              have c31b0 : (x3_2 == (wrap64 ((a0.size : Int) - 1))) = false := beq_eq_false_iff_ne.mpr c31
              have c31b1 : (x3_2 != (wrap64 ((a0.size : Int) - 1))) = true := bne_iff_ne.mpr c31
              (try (have c31b2 : (x3_2 == (IntKind.i64.wrap ((a0.size : Int) - 1))) = false := by have h_ : (x3_2 == (wrap64 ((a0.size : Int) - 1))) = false := beq_eq_false_iff_ne.mpr c31; simp only [i64_w]; exact h_))
              (try (have c31b3 : (x3_2 != (IntKind.i64.wrap ((a0.size : Int) - 1))) = true := by have h_ : (x3_2 != (wrap64 ((a0.size : Int) - 1))) = true := bne_iff_ne.mpr c31; simp only [i64_w]; exact h_))
              by_cases c34 : ((bt a0 x3_2) ≤ 122)
              ·
               rw [if_pos c34] at H
               have c34b0 : decide ((bt a0 x3_2) ≤ 122) = true := decide_eq_true c34
               clear c34
               have H' := Aside0.mk H
               clear H
               have p7 : 0 ≤ (x3_2 : Int) := of_decide_eq_true (by first | (with_reducible assumption) | assumption)
               have q7 : x3_2 < (a0.size : Int) := of_decide_eq_true (by first | (with_reducible assumption) | assumption)
               have hx7 := bt_at a0 x3_2
               replace p7 := eq_true p7
               replace q7 := eq_true q7
               go_wp2
               go_roundg k2
               case measure => have := HJ1.out; have := HK2.out; omega
               case rel => exact ⟨(wrap64 (x3_2 + 1)), (by first | rfl | (simp; done) | (simp [*]; done) | (simp only [i64_w]; done) | (simp [i64_w, Int.tdiv_eq_ediv_of_nonneg]; done)), H', ⟨by have := HJ1.out; have := HK2.out; omega⟩, by repeat (first | exact Drawn0.refl _ | apply Drawn0.step)⟩
              ·
               rw [if_neg c34] at H
               have c34b0 : decide ((bt a0 x3_2) ≤ 122) = false := decide_eq_false c34
               clear c34
               by_cases c35 : ((bt a0 x3_2) ≤ 57)
               ·
                rw [if_pos c35] at H
                have c35b0 : decide ((bt a0 x3_2) ≤ 57) = true := decide_eq_true c35
                clear c35
                have H' := Aside0.mk H
                clear H
                have p7 : 0 ≤ (x3_2 : Int) := of_decide_eq_true (by first | (with_reducible assumption) | assumption)
                have q7 : x3_2 < (a0.size : Int) := of_decide_eq_true (by first | (with_reducible assumption) | assumption)
                have hx7 := bt_at a0 x3_2
                replace p7 := eq_true p7
                replace q7 := eq_true q7
                go_wp2
                go_roundg k2
                case measure => have := HJ1.out; have := HK2.out; omega
                case rel => exact ⟨(wrap64 (x3_2 + 1)), (by first | rfl | (simp; done) | (simp [*]; done) | (simp only [i64_w]; done) | (simp [i64_w, Int.tdiv_eq_ediv_of_nonneg]; done)), H', ⟨by have := HJ1.out; have := HK2.out; omega⟩, by repeat (first | exact Drawn0.refl _ | apply Drawn0.step)⟩
               ·
                rw [if_neg c35] at H
                have c35b0 : decide ((bt a0 x3_2) ≤ 57) = false := decide_eq_false c35
                clear c35
                by_cases c36 : ((bt a0 x3_2) = 47)
                ·
                 rw [if_pos c36] at H
                 have c36b0 : ((bt a0 x3_2) == 47) = true := beq_iff_eq.mpr c36
                 have c36b1 : ((bt a0 x3_2) != 47) = false := bne_eq_false_iff_eq.mpr c36
                 clear c36
                 have H' := Aside0.mk H
                 clear H
                 have p7 : 0 ≤ (x3_2 : Int) := of_decide_eq_true (by first | (with_reducible assumption) | assumption)
                 have q7 : x3_2 < (a0.size : Int) := of_decide_eq_true (by first | (with_reducible assumption) | assumption)
                 have hx7 := bt_at a0 x3_2
                 replace p7 := eq_true p7
                 replace q7 := eq_true q7
                 go_wp2
                 go_roundg k2
                 case measure => have := HJ1.out; have := HK2.out; omega
                 case rel => exact ⟨(wrap64 (x3_2 + 1)), (by first | rfl | (simp; done) | (simp [*]; done) | (simp only [i64_w]; done) | (simp [i64_w, Int.tdiv_eq_ediv_of_nonneg]; done)), H', ⟨by have := HJ1.out; have := HK2.out; omega⟩, by repeat (first | exact Drawn0.refl _ | apply Drawn0.step)⟩
                ·
                 rw [if_neg c36] at H
                 have c36b0 : ((bt a0 x3_2) == 47) = false := beq_eq_false_iff_ne.mpr c36
                 have c36b1 : ((bt a0 x3_2) != 47) = true := bne_iff_ne.mpr c36
                 obtain rfl := Option.some.inj H
                 have p7 : 0 ≤ (x3_2 : Int) := of_decide_eq_true (by first | (with_reducible assumption) | assumption)
                 have q7 : x3_2 < (a0.size : Int) := of_decide_eq_true (by first | (with_reducible assumption) | assumption)
                 have hx7 := bt_at a0 x3_2
                 replace p7 := eq_true p7
                 replace q7 := eq_true q7
                 go_wp2
                 go_ret
                 exact ⟨by first | rfl | (simp; done) | (simp [*]; done) | (simp only [i64_w]; done) | (simp [i64_w, Int.tdiv_eq_ediv_of_nonneg]; done), by repeat (first | exact Drawn0.refl _ | apply Drawn0.step)⟩
         ·
          rw [if_neg c9] at H
          have c9b0 : decide (48 ≤ (bt a0 x3_2)) = false := decide_eq_false c9
          clear c9
          by_cases c37 : (bt a0 x3_2) = 45
          ·
           rw [if_pos c37] at H
           have c37b0 : ((bt a0 x3_2) == 45) = true := beq_iff_eq.mpr c37
           have c37b1 : ((bt a0 x3_2) != 45) = false := bne_eq_false_iff_eq.mpr c37
           clear c37
           by_cases c38 : x3_2 = 0
           ·
            rw [if_pos c38] at H
            have c38b0 : (x3_2 == 0) = true := beq_iff_eq.mpr c38
            have c38b1 : (x3_2 != 0) = false := bne_eq_false_iff_eq.mpr c38
            clear c38
            by_cases c39 : ((bt a0 x3_2) ≤ 122)
            ·
             rw [if_pos c39] at H
             have c39b0 : decide ((bt a0 x3_2) ≤ 122) = true := decide_eq_true c39
             clear c39
             by_cases c40 : x3_2 = (wrap64 ((a0.size : Int) - 1))
             ·
              rw [if_pos c40] at H
              have c40b0 : (x3_2 == (wrap64 ((a0.size : Int) - 1))) = true := beq_iff_eq.mpr c40
              have c40b1 : (x3_2 != (wrap64 ((a0.size : Int) - 1))) = false := bne_eq_false_iff_eq.mpr c40
              (try (have c40b2 : (x3_2 == (IntKind.i64.wrap ((a0.size : Int) - 1))) = true := by have h_ : (x3_2 == (wrap64 ((a0.size : Int) - 1))) = true := beq_iff_eq.mpr c40; simp only [i64_w]; exact h_))
              (try (have c40b3 : (x3_2 != (IntKind.i64.wrap ((a0.size : Int) - 1))) = false := by have h_ : (x3_2 != (wrap64 ((a0.size : Int) - 1))) = false := bne_eq_false_iff_eq.mpr c40; simp only [i64_w]; exact h_))
              clear c40
              have H' := Aside0.mk H
              clear H
              have p7 : 0 ≤ (x3_2 : Int) := of_decide_eq_true (by first | (with_reducible assumption) | assumption)
              have q7 : x3_2 < (a0.size : Int) := of_decide_eq_true (by first | (with_reducible assumption) | assumption)
              have hx7 := bt_at a0 x3_2
              replace p7 := eq_true p7
              replace q7 := eq_true q7
              go_wp2
              go_roundg k2
              case measure => have := HJ1.out; have := HK2.out; omega
              case rel => exact ⟨(wrap64 (x3_2 + 1)), (by first | rfl | (simp; done) | (simp [*]; done) | (simp only [i64_w]; done) | (simp [i64_w, Int.tdiv_eq_ediv_of_nonneg]; done)), H', ⟨by have := HJ1.out; have := HK2.out; omega⟩, by repeat (first | exact Drawn0.refl _ | apply Drawn0.step)⟩
             ·
              rw [if_neg c40] at H
              have c40b0 : (x3_2 == (wrap64 ((a0.size : Int) - 1))) = false := beq_eq_false_iff_ne.mpr c40
              have c40b1 : (x3_2 != (wrap64 ((a0.size : Int) - 1))) = true := bne_iff_ne.mpr c40
              (try (have c40b2 : (x3_2 == (IntKind.i64.wrap ((a0.size : Int) - 1))) = false := by have h_ : (x3_2 == (wrap64 ((a0.size : Int) - 1))) = false := beq_eq_false_iff_ne.mpr c40; simp only [i64_w]; exact h_))
              (try (have c40b3 : (x3_2 != (IntKind.i64.wrap ((a0.size : Int) - 1))) = true := by have h_ : (x3_2 != (wrap64 ((a0.size : Int) - 1))) = true := bne_iff_ne.mpr c40; simp only [i64_w]; exact h_))
              have H' := Aside0.mk H
              clear H
              have p7 : 0 ≤ (x3_2 : Int) := of_decide_eq_true (by first | (with_reducible assumption) | assumption)
              have q7 : x3_2 < (a0.size : Int) := of_decide_eq_true (by first | (with_reducible assumption) | assumption)
              have hx7 := bt_at a0 x3_2
              replace p7 := eq_true p7
              replace q7 := eq_true q7
              go_wp2
              go_roundg k2
              case measure => have := HJ1.out; have := HK2.out; omega
              case rel => exact ⟨(wrap64 (x3_2 + 1)), (by first | rfl | (simp; done) | (simp [*]; done) | (simp only [i64_w]; done) | (simp [i64_w, Int.tdiv_eq_ediv_of_nonneg]; done)), H', ⟨by have := HJ1.out; have := HK2.out; omega⟩, by repeat (first | exact Drawn0.refl _ | apply Drawn0.step)⟩
            ·
             rw [if_neg c39] at H
             have c39b0 : decide ((bt a0 x3_2) ≤ 122) = false := decide_eq_false c39
             clear c39
             obtain rfl := Option.some.inj H
             have p7 : 0 ≤ (x3_2 : Int) := of_decide_eq_true (by first | (with_reducible assumption) | assumption)
             have q7 : x3_2 < (a0.size : Int) := of_decide_eq_true (by first | (with_reducible assumption) | assumption)
             have hx7 := bt_at a0 x3_2
             replace p7 := eq_true p7
             replace q7 := eq_true q7
             go_wp2
             go_ret
             exact ⟨by first | rfl | (simp; done) | (simp [*]; done) | (simp only [i64_w]; done) | (simp [i64_w, Int.tdiv_eq_ediv_of_nonneg]; done), by repeat (first | exact Drawn0.refl _ | apply Drawn0.step)⟩
           ·
            rw [if_neg c38] at H
            have c38b0 : (x3_2 == 0) = false := beq_eq_false_iff_ne.mpr c38
            have c38b1 : (x3_2 != 0) = true := bne_iff_ne.mpr c38
            by_cases c41 : x3_2 = (wrap64 ((a0.size : Int) - 1))
            ·
             rw [if_pos c41] at H
             have c41b0 : (x3_2 == (wrap64 ((a0.size : Int) - 1))) = true := beq_iff_eq.mpr c41
             have c41b1 : (x3_2 != (wrap64 ((a0.size : Int) - 1))) = false := bne_eq_false_iff_eq.mpr c41
             (try (have c41b2 : (x3_2 == (IntKind.i64.wrap ((a0.size : Int) - 1))) = true := by have h_ : (x3_2 == (wrap64 ((a0.size : Int) - 1))) = true := beq_iff_eq.mpr c41; simp only [i64_w]; exact h_))
             (try (have c41b3 : (x3_2 != (IntKind.i64.wrap ((a0.size : Int) - 1))) = false := by have h_ : (x3_2 != (wrap64 ((a0.size : Int) - 1))) = false := bne_eq_false_iff_eq.mpr c41; simp only [i64_w]; exact h_))
             clear c41
             by_cases c42 : ((bt a0 x3_2) ≤ 122)
             ·
              rw [if_pos c42] at H
              have c42b0 : decide ((bt a0 x3_2) ≤ 122) = true := decide_eq_true c42
              clear c42
              have H' := Aside0.mk H
              clear H
              have p7 : 0 ≤ (x3_2 : Int) := of_decide_eq_true (by first | (with_reducible assumption) | assumption)
              have q7 : x3_2 < (a0.size : Int) := of_decide_eq_true (by first | (with_reducible assumption) | assumption)
              have hx7 := bt_at a0 x3_2
              replace p7 := eq_true p7
              replace q7 := eq_true q7
              go_wp2
              go_roundg k2
              case measure => have := HJ1.out; have := HK2.out; omega
              case rel => exact ⟨(wrap64 (x3_2 + 1)), (by first | rfl | (simp; done) | (simp [*]; done) | (simp only [i64_w]; done) | (simp [i64_w, Int.tdiv_eq_ediv_of_nonneg]; done)), H', ⟨by have := HJ1.out; have := HK2.out; omega⟩, by repeat (first | exact Drawn0.refl _ | apply Drawn0.step)⟩
             ·
              rw [if_neg c42] at H
              have c42b0 : decide ((bt a0 x3_2) ≤ 122) = false := decide_eq_false c42
              clear c42
              obtain rfl := Option.some.inj H
              have p7 : 0 ≤ (x3_2 : Int) := of_decide_eq_true (by first | (with_reducible assumption) | assumption)
              have q7 : x3_2 < (a0.size : Int) := of_decide_eq_true (by first | (with_reducible assumption) | assumption)
              have hx7 := bt_at a0 x3_2
              replace p7 := eq_true p7
              replace q7 := eq_true q7
              go_wp2
              go_ret
              exact ⟨by first | rfl | (simp; done) | (simp [*]; done) | (simp only [i64_w]; done) | (simp [i64_w, Int.tdiv_eq_ediv_of_nonneg]; done), by repeat (first | exact Drawn0.refl _ | apply Drawn0.step)⟩
            ·
             rw [if_neg c41] at H
             have c41b0 : (x3_2 == (wrap64 ((a0.size : Int) - 1))) = false := beq_eq_false_iff_ne.mpr c41
             have c41b1 : (x3_2 != (wrap64 ((a0.size : Int) - 1))) = true := bne_iff_ne.mpr c41
             (try (have c41b2 : (x3_2 == (IntKind.i64.wrap ((a0.size : Int) - 1))) = false := by have h_ : (x3_2 == (wrap64 ((a0.size : Int) - 1))) = false := beq_eq_false_iff_ne.mpr c41; simp only [i64_w]; exact h_))
             (try (have c41b3 : (x3_2 != (IntKind.i64.wrap ((a0.size : Int) - 1))) = true := by have h_ : (x3_2 != (wrap64 ((a0.size : Int) - 1))) = true := bne_iff_ne.mpr c41; simp only [i64_w]; exact h_))
             by_cases c43 : ((bt a0 x3_2) ≤ 122)
             ·
              rw [if_pos c43] at H
              have c43b0 : decide ((bt a0 x3_2) ≤ 122) = true := decide_eq_true c43
              clear c43
              have H' := Aside0.mk H
              clear H
              have p7 : 0 ≤ (x3_2 : Int) := of_decide_eq_true (by first | (with_reducible assumption) | assumption)
              have q7 : x3_2 < (a0.size : Int) := of_decide_eq_true (by first | (with_reducible assumption) | assumption)
              have hx7 := bt_at a0 x3_2
              replace p7 := eq_true p7
              replace q7 := eq_true q7
              go_wp2
              go_roundg k2
              case measure => have := HJ1.out; have := HK2.out; omega
              case rel => exact ⟨(wrap64 (x3_2 + 1)), (by first | rfl | (simp; done) | (simp [*]; done) | (simp only [i64_w]; done) | (simp [i64_w, Int.tdiv_eq_ediv_of_nonneg]; done)), H', ⟨by have := HJ1.out; have := HK2.out; omega⟩, by repeat (first | exact Drawn0.refl _ | apply Drawn0.step)⟩
             ·
              rw [if_neg c43] at H
              have c43b0 : decide ((bt a0 x3_2) ≤ 122) = false := decide_eq_false c43
              clear c43
              have H' := Aside0.mk H
              clear H
              have p7 : 0 ≤ (x3_2 : Int) := of_decide_eq_true (by first | (with_reducible assumption) | assumption)
              have q7 : x3_2 < (a0.size : Int) := of_decide_eq_true (by first | (with_reducible assumption) | assumption)
              have hx7 := bt_at a0 x3_2
              replace p7 := eq_true p7
              replace q7 := eq_true q7
              go_wp2
              go_roundg k2
              case measure => have := HJ1.out; have := HK2.out; omega
              case rel => exact ⟨(wrap64 (x3_2 + 1)), (by first | rfl | (simp; done) | (simp [*]; done) | (simp only [i64_w]; done) | (simp [i64_w, Int.tdiv_eq_ediv_of_nonneg]; done)), H', ⟨by have := HJ1.out; have := HK2.out; omega⟩, by repeat (first | exact Drawn0.refl _ | apply Drawn0.step)⟩
          ·
           rw [if_neg c37] at H
           have c37b0 : ((bt a0 x3_2) == 45) = false := beq_eq_false_iff_ne.mpr c37
           have c37b1 : ((bt a0 x3_2) != 45) = true := bne_iff_ne.mpr c37
           by_cases c44 : (bt a0 x3_2) = 46
           ·
            rw [if_pos c44] at H
            have c44b0 : ((bt a0 x3_2) == 46) = true := beq_iff_eq.mpr c44
            have c44b1 : ((bt a0 x3_2) != 46) = false := bne_eq_false_iff_eq.mpr c44
            clear c44
            by_cases c45 : x3_2 = 0
            ·
             rw [if_pos c45] at H
             have c45b0 : (x3_2 == 0) = true := beq_iff_eq.mpr c45
             have c45b1 : (x3_2 != 0) = false := bne_eq_false_iff_eq.mpr c45
             clear c45
             by_cases c46 : ((bt a0 x3_2) ≤ 122)
             ·
              rw [if_pos c46] at H
              have c46b0 : decide ((bt a0 x3_2) ≤ 122) = true := decide_eq_true c46
              clear c46
              by_cases c47 : x3_2 = (wrap64 ((a0.size : Int) - 1))
              ·
               rw [if_pos c47] at H
               have c47b0 : (x3_2 == (wrap64 ((a0.size : Int) - 1))) = true := beq_iff_eq.mpr c47
               have c47b1 : (x3_2 != (wrap64 ((a0.size : Int) - 1))) = false := bne_eq_false_iff_eq.mpr c47
               (try (have c47b2 : (x3_2 == (IntKind.i64.wrap ((a0.size : Int) - 1))) = true := by have h_ : (x3_2 == (wrap64 ((a0.size : Int) - 1))) = true := beq_iff_eq.mpr c47; simp only [i64_w]; exact h_))
               (try (have c47b3 : (x3_2 != (IntKind.i64.wrap ((a0.size : Int) - 1))) = false := by have h_ : (x3_2 != (wrap64 ((a0.size : Int) - 1))) = false := bne_eq_false_iff_eq.mpr c47; simp only [i64_w]; exact h_))
               clear c47
               have H' := Aside0.mk H
               clear H
               have p7 : 0 ≤ (x3_2 : Int) := of_decide_eq_true (by first | (with_reducible assumption) | assumption)
               have q7 : x3_2 < (a0.size : Int) := of_decide_eq_true (by first | (with_reducible assumption) | assumption)
               have hx7 := bt_at a0 x3_2
               replace p7 := eq_true p7
               replace q7 := eq_true q7
               go_wp2
               go_roundg k2
               case measure => have := HJ1.out; have := HK2.out; omega
               case rel => exact ⟨(wrap64 (x3_2 + 1)), (by first | rfl | (simp; done) | (simp [*]; done) | (simp only [i64_w]; done) | (simp [i64_w, Int.tdiv_eq_ediv_of_nonneg]; done)), H', ⟨by have := HJ1.out; have := HK2.out; omega⟩, by repeat (first | exact Drawn0.refl _ | apply Drawn0.step)⟩
              ·
               rw [if_neg c47] at H
               have c47b0 : (x3_2 == (wrap64 ((a0.size : Int) - 1))) = false := beq_eq_false_iff_ne.mpr c47
               have c47b1 : (x3_2 != (wrap64 ((a0.size : Int) - 1))) = true := bne_iff_ne.mpr c47
               (try (have c47b2 : (x3_2 == (IntKind.i64.wrap ((a0.size : Int) - 1))) = false := by have h_ : (x3_2 == (wrap64 ((a0.size : Int) - 1))) = false := beq_eq_false_iff_ne.mpr c47; simp only [i64_w]; exact h_))
               (try (have c47b3 : (x3_2 != (IntKind.i64.wrap ((a0.size : Int) - 1))) = true := by have h_ : (x3_2 != (wrap64 ((a0.size : Int) - 1))) = true := bne_iff_ne.mpr c47; simp only [i64_w]; exact h_))
               have H' := Aside0.mk H
               clear H
               have p7 : 0 ≤ (x3_2 : Int) := of_decide_eq_true (by first | (with_reducible assumption) | assumption)
               have q7 : x3_2 < (a0.size : Int) := of_decide_eq_true (by first | (with_reducible assumption) | assumption)
               have hx7 := bt_at a0 x3_2
               replace p7 := eq_true p7
               replace q7 := eq_true q7
               go_wp2
               go_roundg k2
               case measure => have := HJ1.out; have := HK2.out; omega
               case rel => exact ⟨(wrap64 (x3_2 + 1)), (by first | rfl | (simp; done) | (simp [*]; done) | (simp only [i64_w]; done) | (simp [i64_w, Int.tdiv_eq_ediv_of_nonneg]; done)), H', ⟨by have := HJ1.out; have := HK2.out; omega⟩, by repeat (first | exact Drawn0.refl _ | apply Drawn0.step)⟩
             ·
              rw [if_neg c46] at H
              have c46b0 : decide ((bt a0 x3_2) ≤ 122) = false := decide_eq_false c46
              clear c46
              obtain rfl := Option.some.inj H
              have p7 : 0 ≤ (x3_2 : Int) := of_decide_eq_true (by first | (with_reducible assumption) | assumption)
              have q7 : x3_2 < (a0.size : Int) := of_decide_eq_true (by first | (with_reducible assumption) | assumption)
              have hx7 := bt_at a0 x3_2
              replace p7 := eq_true p7
              replace q7 := eq_true q7
              go_wp2
              go_ret
              exact ⟨by first | rfl | (simp; done) | (simp [*]; done) | (simp only [i64_w]; done) | (simp [i64_w, Int.tdiv_eq_ediv_of_nonneg]; done), by repeat (first | exact Drawn0.refl _ | apply Drawn0.step)⟩
            ·
             rw [if_neg c45] at H
             have c45b0 : (x3_2 == 0) = false := beq_eq_false_iff_ne.mpr c45
             have c45b1 : (x3_2 != 0) = true := bne_iff_ne.mpr c45
             by_cases c48 : x3_2 = (wrap64 ((a0.size : Int) - 1))
             ·
              rw [if_pos c48] at H
              have c48b0 : (x3_2 == (wrap64 ((a0.size : Int) - 1))) = true := beq_iff_eq.mpr c48
              have c48b1 : (x3_2 != (wrap64 ((a0.size : Int) - 1))) = false := bne_eq_false_iff_eq.mpr c48
              (try (have c48b2 : (x3_2 == (IntKind.i64.wrap ((a0.size : Int) - 1))) = true := by have h_ : (x3_2 == (wrap64 ((a0.size : Int) - 1))) = true := beq_iff_eq.mpr c48; simp only [i64_w]; exact h_))
              (try (have c48b3 : (x3_2 != (IntKind.i64.wrap ((a0.size : Int) - 1))) = false := by have h_ : (x3_2 != (wrap64 ((a0.size : Int) - 1))) = false := bne_eq_false_iff_eq.mpr c48; simp only [i64_w]; exact h_))
              clear c48
              by_cases c49 : ((bt a0 x3_2) ≤ 122)
              ·
               rw [if_pos c49] at H
               have c49b0 : decide ((bt a0 x3_2) ≤ 122) = true := decide_eq_true c49
               clear c49
               have H' := Aside0.mk H
               clear H
               have p7 : 0 ≤ (x3_2 : Int) := of_decide_eq_true (by first | (with_reducible assumption) | assumption)
               have q7 : x3_2 < (a0.size : Int) := of_decide_eq_true (by first | (with_reducible assumption) | assumption)
               have hx7 := bt_at a0 x3_2
               replace p7 := eq_true p7
               replace q7 := eq_true q7
               go_wp2
               go_roundg k2
               case measure => have := HJ1.out; have := HK2.out; omega
               case rel => exact ⟨(wrap64 (x3_2 + 1)), (by first | rfl | (simp; done) | (simp [*]; done) | (simp only [i64_w]; done) | (simp [i64_w, Int.tdiv_eq_ediv_of_nonneg]; done)), H', ⟨by have := HJ1.out; have := HK2.out; omega⟩, by repeat (first | exact Drawn0.refl _ | apply Drawn0.step)⟩
              ·
               rw [if_neg c49] at H
               have c49b0 : decide ((bt a0 x3_2) ≤ 122) = false := decide_eq_false c49
               clear c49
               obtain rfl := Option.some.inj H
               have p7 : 0 ≤ (x3_2 : Int) := of_decide_eq_true (by first | (with_reducible assumption) | assumption)
               have q7 : x3_2 < (a0.size : Int) := of_decide_eq_true (by first | (with_reducible assumption) | assumption)
               have hx7 := bt_at a0 x3_2
               replace p7 := eq_true p7
               replace q7 := eq_true q7
               go_wp2
               go_ret
               exact ⟨by first | rfl | (simp; done) | (simp [*]; done) | (simp only [i64_w]; done) | (simp [i64_w, Int.tdiv_eq_ediv_of_nonneg]; done), by repeat (first | exact Drawn0.refl _ | apply Drawn0.step)⟩
             ·
              rw [if_neg c48] at H
              have c48b0 : (x3_2 == (wrap64 ((a0.size : Int) - 1))) = false := beq_eq_false_iff_ne.mpr c48
              have c48b1 : (x3_2 != (wrap64 ((a0.size : Int) - 1))) = true := bne_iff_ne.mpr c48
              (try (have c48b2 : (x3_2 == (IntKind.i64.wrap ((a0.size : Int) - 1))) = false := by have h_ : (x3_2 == (wrap64 ((a0.size : Int) - 1))) = false := beq_eq_false_iff_ne.mpr c48; simp only [i64_w]; exact h_))
              (try (have c48b3 : (x3_2 != (IntKind.i64.wrap ((a0.size : Int) - 1))) = true := by have h_ : (x3_2 != (wrap64 ((a0.size : Int) - 1))) = true := bne_iff_ne.mpr c48; simp only [i64_w]; exact h_))
              by_cases c50 : ((bt a0 x3_2) ≤ 122)
              ·
               rw [if_pos c50] at H
               have c50b0 : decide ((bt a0 x3_2) ≤ 122) = true := decide_eq_true c50
               clear c50
               have H' := Aside0.mk H
               clear H
               have p7 : 0 ≤ (x3_2 : Int) := of_decide_eq_true (by first | (with_reducible assumption) | assumption)
               have q7 : x3_2 < (a0.size : Int) := of_decide_eq_true (by first | (with_reducible assumption) | assumption)
               have hx7 := bt_at a0 x3_2
               replace p7 := eq_true p7
               replace q7 := eq_true q7
               go_wp2
               go_roundg k2
               case measure => have := HJ1.out; have := HK2.out; omega
               case rel => exact ⟨(wrap64 (x3_2 + 1)), (by first | rfl | (simp; done) | (simp [*]; done) | (simp only [i64_w]; done) | (simp [i64_w, Int.tdiv_eq_ediv_of_nonneg]; done)), H', ⟨by have := HJ1.out; have := HK2.out; omega⟩, by repeat (first | exact Drawn0.refl _ | apply Drawn0.step)⟩
              ·
               rw [if_neg c50] at H
               have c50b0 : decide ((bt a0 x3_2) ≤ 122) = false := decide_eq_false c50
               clear c50
               have H' := Aside0.mk H
               clear H
               have p7 : 0 ≤ (x3_2 : Int) := of_decide_eq_true (by first | (with_reducible assumption) | assumption)
               have q7 : x3_2 < (a0.size : Int) := of_decide_eq_true (by first | (with_reducible assumption) | assumption)
               have hx7 := bt_at a0 x3_2
               replace p7 := eq_true p7
               replace q7 := eq_true q7
               go_wp2
               go_roundg k2
               case measure => have := HJ1.out; have := HK2.out; omega
               case rel => exact ⟨(wrap64 (x3_2 + 1)), (by first | rfl | (simp; done) | (simp [*]; done) | (simp only [i64_w]; done) | (simp [i64_w, Int.tdiv_eq_ediv_of_nonneg]; done)), H', ⟨by have := HJ1.out; have := HK2.out; omega⟩, by repeat (first | exact Drawn0.refl _ | apply Drawn0.step)⟩
           ·
            rw [if_neg c44] at H
            have c44b0 : ((bt a0 x3_2) == 46) = false := beq_eq_false_iff_ne.mpr c44
            have c44b1 : ((bt a0 x3_2) != 46) = true := bne_iff_ne.mpr c44
            by_cases c51 : x3_2 = 0
            ·
             rw [if_pos c51] at H
             have c51b0 : (x3_2 == 0) = true := beq_iff_eq.mpr c51
             have c51b1 : (x3_2 != 0) = false := bne_eq_false_iff_eq.mpr c51
             clear c51
             by_cases c52 : ((bt a0 x3_2) ≤ 122)
             ·
              rw [if_pos c52] at H
              have c52b0 : decide ((bt a0 x3_2) ≤ 122) = true := decide_eq_true c52
              clear c52
              by_cases c53 : x3_2 = (wrap64 ((a0.size : Int) - 1))
              ·
               rw [if_pos c53] at H
               have c53b0 : (x3_2 == (wrap64 ((a0.size : Int) - 1))) = true := beq_iff_eq.mpr c53
               have c53b1 : (x3_2 != (wrap64 ((a0.size : Int) - 1))) = false := bne_eq_false_iff_eq.mpr c53
               (try (have c53b2 : (x3_2 == (IntKind.i64.wrap ((a0.size : Int) - 1))) = true := by have h_ : (x3_2 == (wrap64 ((a0.size : Int) - 1))) = true := beq_iff_eq.mpr c53; simp only [i64_w]; exact h_))
               (try (have c53b3 : (x3_2 != (IntKind.i64.wrap ((a0.size : Int) - 1))) = false := by have h_ : (x3_2 != (wrap64 ((a0.size : Int) - 1))) = false := bne_eq_false_iff_eq.mpr c53; simp only [i64_w]; exact h_))
               clear c53
               have H' := Aside0.mk H
               clear H
               have p7 : 0 ≤ (x3_2 : Int) := of_decide_eq_true (by first | (with_reducible assumption) | assumption)
               have q7 : x3_2 < (a0.size : Int) := of_decide_eq_true (by first | (with_reducible assumption) | assumption)
               have hx7 := bt_at a0 x3_2
               replace p7 := eq_true p7
               replace q7 := eq_true q7
               go_wp2
               go_roundg k2
               case measure => have := HJ1.out; have := HK2.out; omega
               case rel => exact ⟨(wrap64 (x3_2 + 1)), (by first | rfl | (simp; done) | (simp [*]; done) | (simp only [i64_w]; done) | (simp [i64_w, Int.tdiv_eq_ediv_of_nonneg]; done)), H', ⟨by have := HJ1.out; have := HK2.out; omega⟩, by repeat (first | exact Drawn0.refl _ | apply Drawn0.step)⟩
              ·
               rw [if_neg c53] at H
               have c53b0 : (x3_2 == (wrap64 ((a0.size : Int) - 1))) = false := beq_eq_false_iff_ne.mpr c53
               have c53b1 : (x3_2 != (wrap64 ((a0.size : Int) - 1))) = true := bne_iff_ne.mpr c53
               (try (have c53b2 : (x3_2 == (IntKind.i64.wrap ((a0.size : Int) - 1))) = false := by have h_ : (x3_2 == (wrap64 ((a0.size : Int) - 1))) = false := beq_eq_false_iff_ne.mpr c53; simp only [i64_w]; exact h_))
               (try (have c53b3 : (x3_2 != (IntKind.i64.wrap ((a0.size : Int) - 1))) = true := by have h_ : (x3_2 != (wrap64 ((a0.size : Int) - 1))) = true := bne_iff_ne.mpr c53; simp only [i64_w]; exact h_))
               have H' := Aside0.mk H
               clear H
               have p7 : 0 ≤ (x3_2 : Int) := of_decide_eq_true (by first | (with_reducible assumption) | assumption)
               have q7 : x3_2 < (a0.size : Int) := of_decide_eq_true (by first | (with_reducible assumption) | assumption)
               have hx7 := bt_at a0 x3_2
               replace p7 := eq_true p7
               replace q7 := eq_true q7
               go_wp2
               go_roundg k2
               case measure => have := HJ1.out; have := HK2.out; omega
               case rel => exact ⟨(wrap64 (x3_2 + 1)), (by first | rfl | (simp; done) | (simp [*]; done) | (simp only [i64_w]; done) | (simp [i64_w, Int.tdiv_eq_ediv_of_nonneg]; done)), H', ⟨by have := HJ1.out; have := HK2.out; omega⟩, by repeat (first | exact Drawn0.refl _ | apply Drawn0.step)⟩
             ·
              rw [if_neg c52] at H
              have c52b0 : decide ((bt a0 x3_2) ≤ 122) = false := decide_eq_false c52
              clear c52
              obtain rfl := Option.some.inj H
              have p7 : 0 ≤ (x3_2 : Int) := of_decide_eq_true (by first | (with_reducible assumption) | assumption)
              have q7 : x3_2 < (a0.size : Int) := of_decide_eq_true (by first | (with_reducible assumption) | assumption)
              have hx7 := bt_at a0 x3_2
              replace p7 := eq_true p7
              replace q7 := eq_true q7
              go_wp2
              go_ret
              exact ⟨by first | rfl | (simp; done) | (simp [*]; done) | (simp only [i64_w]; done) | (simp [i64_w, Int.tdiv_eq_ediv_of_nonneg]; done), by repeat (first | exact Drawn0.refl _ | apply Drawn0.step)⟩
            ·
             rw [if_neg c51] at H
             have c51b0 : (x3_2 == 0) = false := beq_eq_false_iff_ne.mpr c51
             have c51b1 : (x3_2 != 0) = true := bne_iff_ne.mpr c51
             by_cases c54 : x3_2 = (wrap64 ((a0.size : Int) - 1))
             ·
              rw [if_pos c54] at H
              have c54b0 : (x3_2 == (wrap64 ((a0.size : Int) - 1))) = true := beq_iff_eq.mpr c54
              have c54b1 : (x3_2 != (wrap64 ((a0.size : Int) - 1))) = false := bne_eq_false_iff_eq.mpr c54
              (try (have c54b2 : (x3_2 == (IntKind.i64.wrap ((a0.size : Int) - 1))) = true := by have h_ : (x3_2 == (wrap64 ((a0.size : Int) - 1))) = true := beq_iff_eq.mpr c54; simp only [i64_w]; exact h_))
              (try (have c54b3 : (x3_2 != (IntKind.i64.wrap ((a0.size : Int) - 1))) = false := by have h_ : (x3_2 != (wrap64 ((a0.size : Int) - 1))) = false := bne_eq_false_iff_eq.mpr c54; simp only [i64_w]; exact h_))
              clear c54
              by_cases c55 : ((bt a0 x3_2) ≤ 122)
              ·
               rw [if_pos c55] at H
               have c55b0 : decide ((bt a0 x3_2) ≤ 122) = true := decide_eq_true c55
               clear c55
               have H' := Aside0.mk H
               clear H
               have p7 : 0 ≤ (x3_2 : Int) := of_decide_eq_true (by first | (with_reducible assumption) | assumption)
               have q7 : x3_2 < (a0.size : Int) := of_decide_eq_true (by first | (with_reducible assumption) | assumption)
               have hx7 := bt_at a0 x3_2
               replace p7 := eq_true p7
               replace q7 := eq_true q7
               go_wp2
               go_roundg k2
               case measure => have := HJ1.out; have := HK2.out; omega
               case rel => exact ⟨(wrap64 (x3_2 + 1)), (by first | rfl | (simp; done) | (simp [*]; done) | (simp only [i64_w]; done) | (simp [i64_w, Int.tdiv_eq_ediv_of_nonneg]; done)), H', ⟨by have := HJ1.out; have := HK2.out; omega⟩, by repeat (first | exact Drawn0.refl _ | apply Drawn0.step)⟩
              ·
               rw [if_neg c55] at H
               have c55b0 : decide ((bt a0 x3_2) ≤ 122) = false := decide_eq_false c55
               clear c55
               obtain rfl := Option.some.inj H
               have p7 : 0 ≤ (x3_2 : Int) := of_decide_eq_true (by first | (with_reducible assumption) | assumption)
               have q7 : x3_2 < (a0.size : Int) := of_decide_eq_true (by first | (with_reducible assumption) | assumption)
               have hx7 := bt_at a0 x3_2
               replace p7 := eq_true p7
               replace q7 := eq_true q7
               go_wp2
               go_ret
               exact ⟨by first | rfl | (simp; done) | (simp [*]; done) | (simp only [i64_w]; done) | (simp [i64_w, Int.tdiv_eq_ediv_of_nonneg]; done), by repeat (first | exact Drawn0.refl _ | apply Drawn0.step)⟩
             ·
              rw [if_neg c54] at H
              have c54b0 : (x3_2 == (wrap64 ((a0.size : Int) - 1))) = false := beq_eq_false_iff_ne.mpr c54
              have c54b1 : (x3_2 != (wrap64 ((a0.size : Int) - 1))) = true := bne_iff_ne.mpr c54
              (try (have c54b2 : (x3_2 == (IntKind.i64.wrap ((a0.size : Int) - 1))) = false := by have h_ : (x3_2 == (wrap64 ((a0.size : Int) - 1))) = false := beq_eq_false_iff_ne.mpr c54; simp only [i64_w]; exact h_))
              (try (have c54b3 : (x3_2 != (IntKind.i64.wrap ((a0.size : Int) - 1))) = true := by have h_ : (x3_2 != (wrap64 ((a0.size : Int) - 1))) = true := bne_iff_ne.mpr c54; simp only [i64_w]; exact h_))
              by_cases c56 : ((bt a0 x3_2) ≤ 122)
              ·
               rw [if_pos c56] at H
               have c56b0 : decide ((bt a0 x3_2) ≤ 122) = true := decide_eq_true c56
               clear c56
               have H' := Aside0.mk H
               clear H
               have p7 : 0 ≤ (x3_2 : Int) := of_decide_eq_true (by first | (with_reducible assumption) | assumption)
               have q7 : x3_2 < (a0.size : Int) := of_decide_eq_true (by first | (with_reducible assumption) | assumption)
               have hx7 := bt_at a0 x3_2
               replace p7 := eq_true p7
               replace q7 := eq_true q7
               go_wp2
               go_roundg k2
               case measure => have := HJ1.out; have := HK2.out; omega
               case rel => exact ⟨(wrap64 (x3_2 + 1)), (by first | rfl | (simp; done) | (simp [*]; done) | (simp only [i64_w]; done) | (simp [i64_w, Int.tdiv_eq_ediv_of_nonneg]; done)), H', ⟨by have := HJ1.out; have := HK2.out; omega⟩, by repeat (first | exact Drawn0.refl _ | apply Drawn0.step)⟩
              ·
               rw [if_neg c56] at H
               have c56b0 : decide ((bt a0 x3_2) ≤ 122) = false := decide_eq_false c56
               clear c56
               by_cases c57 : ((bt a0 x3_2) = 47)
               ·
                rw [if_pos c57] at H
                have c57b0 : ((bt a0 x3_2) == 47) = true := beq_iff_eq.mpr c57
                have c57b1 : ((bt a0 x3_2) != 47) = false := bne_eq_false_iff_eq.mpr c57
                clear c57
                have H' := Aside0.mk H
                clear H
                have p7 : 0 ≤ (x3_2 : Int) := of_decide_eq_true (by first | (with_reducible assumption) | assumption)
                have q7 : x3_2 < (a0.size : Int) := of_decide_eq_true (by first | (with_reducible assumption) | assumption)
                have hx7 := bt_at a0 x3_2
                replace p7 := eq_true p7
                replace q7 := eq_true q7
                go_wp2
                go_roundg k2
                case measure => have := HJ1.out; have := HK2.out; omega
                case rel => exact ⟨(wrap64 (x3_2 + 1)), (by first | rfl | (simp; done) | (simp [*]; done) | (simp only [i64_w]; done) | (simp [i64_w, Int.tdiv_eq_ediv_of_nonneg]; done)), H', ⟨by have := HJ1.out; have := HK2.out; omega⟩, by repeat (first | exact Drawn0.refl _ | apply Drawn0.step)⟩
               ·
                rw [if_neg c57] at H
                have c57b0 : ((bt a0 x3_2) == 47) = false := beq_eq_false_iff_ne.mpr c57
                have c57b1 : ((bt a0 x3_2) != 47) = true := bne_iff_ne.mpr c57
                obtain rfl := Option.some.inj H
                have p7 : 0 ≤ (x3_2 : Int) := of_decide_eq_true (by first | (with_reducible assumption) | assumption)
                have q7 : x3_2 < (a0.size : Int) := of_decide_eq_true (by first | (with_reducible assumption) | assumption)
                have hx7 := bt_at a0 x3_2
                replace p7 := eq_true p7
                replace q7 := eq_true q7
                go_wp2
                go_ret
                exact ⟨by first | rfl | (simp; done) | (simp [*]; done) | (simp only [i64_w]; done) | (simp [i64_w, Int.tdiv_eq_ediv_of_nonneg]; done), by repeat (first | exact Drawn0.refl _ | apply Drawn0.step)⟩
        ·
         rw [if_neg c8] at H
         have c8b0 : decide (97 ≤ (bt a0 x3_2)) = false := decide_eq_false c8
         clear c8
         by_cases c58 : (bt a0 x3_2) ≥ 48
         ·
          rw [if_pos c58] at H
          have c58b0 : decide (48 ≤ (bt a0 x3_2)) = true := decide_eq_true c58
          clear c58
          by_cases c59 : (bt a0 x3_2) = 45
          ·
           rw [if_pos c59] at H
           have c59b0 : ((bt a0 x3_2) == 45) = true := beq_iff_eq.mpr c59
           have c59b1 : ((bt a0 x3_2) != 45) = false := bne_eq_false_iff_eq.mpr c59
           clear c59
           by_cases c60 : x3_2 = 0
           ·
            rw [if_pos c60] at H
            have c60b0 : (x3_2 == 0) = true := beq_iff_eq.mpr c60
            have c60b1 : (x3_2 != 0) = false := bne_eq_false_iff_eq.mpr c60
            clear c60
            obtain rfl := Option.some.inj H
            have p7 : 0 ≤ (x3_2 : Int) := of_decide_eq_true (by first | (with_reducible assumption) | assumption)
            have q7 : x3_2 < (a0.size : Int) := of_decide_eq_true (by first | (with_reducible assumption) | assumption)
            have hx7 := bt_at a0 x3_2
            replace p7 := eq_true p7
            replace q7 := eq_true q7
            go_wp2
            go_ret
            exact ⟨by first | rfl | (simp; done) | (simp [*]; done) | (simp only [i64_w]; done) | (simp [i64_w, Int.tdiv_eq_ediv_of_nonneg]; done), by repeat (first | exact Drawn0.refl _ | apply Drawn0.step)⟩
           ·
            rw [if_neg c60] at H
            have c60b0 : (x3_2 == 0) = false := beq_eq_false_iff_ne.mpr c60
            have c60b1 : (x3_2 != 0) = true := bne_iff_ne.mpr c60
            by_cases c61 : x3_2 = (wrap64 ((a0.size : Int) - 1))
            ·
             rw [if_pos c61] at H
             have c61b0 : (x3_2 == (wrap64 ((a0.size : Int) - 1))) = true := beq_iff_eq.mpr c61
             have c61b1 : (x3_2 != (wrap64 ((a0.size : Int) - 1))) = false := bne_eq_false_iff_eq.mpr c61
             (try (have c61b2 : (x3_2 == (IntKind.i64.wrap ((a0.size : Int) - 1))) = true := by have h_ : (x3_2 == (wrap64 ((a0.size : Int) - 1))) = true := beq_iff_eq.mpr c61; simp only [i64_w]; exact h_))
             (try (have c61b3 : (x3_2 != (IntKind.i64.wrap ((a0.size : Int) - 1))) = false := by have h_ : (x3_2 != (wrap64 ((a0.size : Int) - 1))) = false := bne_eq_false_iff_eq.mpr c61; simp only [i64_w]; exact h_))
             clear c61
             by_cases c62 : ((bt a0 x3_2) ≤ 57)
             ·
              rw [if_pos c62] at H
              have c62b0 : decide ((bt a0 x3_2) ≤ 57) = true := decide_eq_true c62
              clear c62
              have H' := Aside0.mk H
              clear H
              have p7 : 0 ≤ (x3_2 : Int) := of_decide_eq_true (by first | (with_reducible assumption) | assumption)
              have q7 : x3_2 < (a0.size : Int) := of_decide_eq_true (by first | (with_reducible assumption) | assumption)
              have hx7 := bt_at a0 x3_2
              replace p7 := eq_true p7
              replace q7 := eq_true q7
              go_wp2
              go_roundg k2
              case measure => have := HJ1.out; have := HK2.out; omega
              case rel => exact ⟨(wrap64 (x3_2 + 1)), (by first | rfl | (simp; done) | (simp [*]; done) | (simp only [i64_w]; done) | (simp [i64_w, Int.tdiv_eq_ediv_of_nonneg]; done)), H', ⟨by have := HJ1.out; have := HK2.out; omega⟩, by repeat (first | exact Drawn0.refl _ | apply Drawn0.step)⟩
             ·
              rw [if_neg c62] at H
              have c62b0 : decide ((bt a0 x3_2) ≤ 57) = false := decide_eq_false c62
              clear c62
              obtain rfl := Option.some.inj H
              have p7 : 0 ≤ (x3_2 : Int) := of_decide_eq_true (by first | (with_reducible assumption) | assumption)
              have q7 : x3_2 < (a0.size : Int) := of_decide_eq_true (by first | (with_reducible assumption) | assumption)
              have hx7 := bt_at a0 x3_2
              replace p7 := eq_true p7
              replace q7 := eq_true q7
              go_wp2
              go_ret
              exact ⟨by first | rfl | (simp; done) | (simp [*]; done) | (simp only [i64_w]; done) | (simp [i64_w, Int.tdiv_eq_ediv_of_nonneg]; done), by repeat (first | exact Drawn0.refl _ | apply Drawn0.step)⟩
            ·
             rw [if_neg c61] at H
             have c61b0 : (x3_2 == (wrap64 ((a0.size : Int) - 1))) = false := beq_eq_false_iff_ne.mpr c61
             have c61b1 : (x3_2 != (wrap64 ((a0.size : Int) - 1))) = true := bne_iff_ne.mpr c61
             (try (have c61b2 : (x3_2 == (IntKind.i64.wrap ((a0.size : Int) - 1))) = false := by have h_ : (x3_2 == (wrap64 ((a0.size : Int) - 1))) = false := beq_eq_false_iff_ne.mpr c61; simp only [i64_w]; exact h_))
             (try (have c61b3 : (x3_2 != (IntKind.i64.wrap ((a0.size : Int) - 1))) = true := by have h_ : (x3_2 != (wrap64 ((a0.size : Int) - 1))) = true := bne_iff_ne.mpr c61; simp only [i64_w]; exact h_))
             by_cases c63 : ((bt a0 x3_2) ≤ 57)
             ·
              rw [if_pos c63] at H
              have c63b0 : decide ((bt a0 x3_2) ≤ 57) = true := decide_eq_true c63
              clear c63
              have H' := Aside0.mk H
              clear H
              have p7 : 0 ≤ (x3_2 : Int) := of_decide_eq_true (by first | (with_reducible assumption) | assumption)
              have q7 : x3_2 < (a0.size : Int) := of_decide_eq_true (by first | (with_reducible assumption) | assumption)
              have hx7 := bt_at a0 x3_2
              replace p7 := eq_true p7
              replace q7 := eq_true q7
              go_wp2
              go_roundg k2
              case measure => have := HJ1.out; have := HK2.out; omega
              case rel => exact ⟨(wrap64 (x3_2 + 1)), (by first | rfl | (simp; done) | (simp [*]; done) | (simp only [i64_w]; done) | (simp [i64_w, Int.tdiv_eq_ediv_of_nonneg]; done)), H', ⟨by have := HJ1.out; have := HK2.out; omega⟩, by repeat (first | exact Drawn0.refl _ | apply Drawn0.step)⟩
             ·
              rw [if_neg c63] at H
              have c63b0 : decide ((bt a0 x3_2) ≤ 57) = false := decide_eq_false c63
              clear c63
              have H' := Aside0.mk H
              clear H
              have p7 : 0 ≤ (x3_2 : Int) := of_decide_eq_true (by first | (with_reducible assumption) | assumption)
              have q7 : x3_2 < (a0.size : Int) := of_decide_eq_true (by first | (with_reducible assumption) | assumption)
              have hx7 := bt_at a0 x3_2
              replace p7 := eq_true p7
              replace q7 := eq_true q7
              go_wp2
              go_roundg k2
              case measure => have := HJ1.out; have := HK2.out; omega
              case rel => exact ⟨(wrap64 (x3_2 + 1)), (by first | rfl | (simp; done) | (simp [*]; done) | (simp only [i64_w]; done) | (simp [i64_w, Int.tdiv_eq_ediv_of_nonneg]; done)), H', ⟨by have := HJ1.out; have := HK2.out; omega⟩, by repeat (first | exact Drawn0.refl _ | apply Drawn0.step)⟩
          ·
           rw [if_neg c59] at H
           have c59b0 : ((bt a0 x3_2) == 45) = false := beq_eq_false_iff_ne.mpr c59
           have c59b1 : ((bt a0 x3_2) != 45) = true := bne_iff_ne.mpr c59
           by_cases c64 : (bt a0 x3_2) = 46
           ·
            rw [if_pos c64] at H
            have c64b0 : ((bt a0 x3_2) == 46) = true := beq_iff_eq.mpr c64
            have c64b1 : ((bt a0 x3_2) != 46) = false := bne_eq_false_iff_eq.mpr c64
            clear c64
            by_cases c65 : x3_2 = 0
            ·
             rw [if_pos c65] at H
             have c65b0 : (x3_2 == 0) = true := beq_iff_eq.mpr c65
             have c65b1 : (x3_2 != 0) = false := bne_eq_false_iff_eq.mpr c65
             clear c65
             obtain rfl := Option.some.inj H
             have p7 : 0 ≤ (x3_2 : Int) := of_decide_eq_true (by first | (with_reducible assumption) | assumption)
             have q7 : x3_2 < (a0.size : Int) := of_decide_eq_true (by first | (with_reducible assumption) | assumption)
             have hx7 := bt_at a0 x3_2
             replace p7 := eq_true p7
             replace q7 := eq_true q7
             go_wp2
             go_ret
             exact ⟨by first | rfl | (simp; done) | (simp [*]; done) | (simp only [i64_w]; done) | (simp [i64_w, Int.tdiv_eq_ediv_of_nonneg]; done), by repeat (first | exact Drawn0.refl _ | apply Drawn0.step)⟩
            ·
             rw [if_neg c65] at H
             have c65b0 : (x3_2 == 0) = false := beq_eq_false_iff_ne.mpr c65
             have c65b1 : (x3_2 != 0) = true := bne_iff_ne.mpr c65
             by_cases c66 : x3_2 = (wrap64 ((a0.size : Int) - 1))
             ·
              rw [if_pos c66] at H
              have c66b0 : (x3_2 == (wrap64 ((a0.size : Int) - 1))) = true := beq_iff_eq.mpr c66
              have c66b1 : (x3_2 != (wrap64 ((a0.size : Int) - 1))) = false := bne_eq_false_iff_eq.mpr c66
              (try (have c66b2 : (x3_2 == (IntKind.i64.wrap ((a0.size : Int) - 1))) = true := by have h_ : (x3_2 == (wrap64 ((a0.size : Int) - 1))) = true := beq_iff_eq.mpr c66; simp only [i64_w]; exact h_))
              (try (have c66b3 : (x3_2 != (IntKind.i64.wrap ((a0.size : Int) - 1))) = false := by have h_ : (x3_2 != (wrap64 ((a0.size : Int) - 1))) = false := bne_eq_false_iff_eq.mpr c66; simp only [i64_w]; exact h_))
              clear c66
              by_cases c67 : ((bt a0 x3_2) ≤ 57)
              ·
               rw [if_pos c67] at H
               have c67b0 : decide ((bt a0 x3_2) ≤ 57) = true := decide_eq_true c67
               clear c67
               have H' := Aside0.mk H
               clear H
               have p7 : 0 ≤ (x3_2 : Int) := of_decide_eq_true (by first | (with_reducible assumption) | assumption)
               have q7 : x3_2 < (a0.size : Int) := of_decide_eq_true (by first | (with_reducible assumption) | assumption)
               have hx7 := bt_at a0 x3_2
               replace p7 := eq_true p7
               replace q7 := eq_true q7
               go_wp2
               go_roundg k2
               case measure => have := HJ1.out; have := HK2.out; omega
               case rel => exact ⟨(wrap64 (x3_2 + 1)), (by first | rfl | (simp; done) | (simp [*]; done) | (simp only [i64_w]; done) | (simp [i64_w, Int.tdiv_eq_ediv_of_nonneg]; done)), H', ⟨by have := HJ1.out; have := HK2.out; omega⟩, by repeat (first | exact Drawn0.refl _ | apply Drawn0.step)⟩
              ·
               rw [if_neg c67] at H
               have c67b0 : decide ((bt a0 x3_2) ≤ 57) = false := decide_eq_false c67
               clear c67
               obtain rfl := Option.some.inj H
               have p7 : 0 ≤ (x3_2 : Int) := of_decide_eq_true (by first | (with_reducible assumption) | assumption)
               have q7 : x3_2 < (a0.size : Int) := of_decide_eq_true (by first | (with_reducible assumption) | assumption)
               have hx7 := bt_at a0 x3_2
               replace p7 := eq_true p7
               replace q7 := eq_true q7
               go_wp2
               go_ret
               exact ⟨by first | rfl | (simp; done) | (simp [*]; done) | (simp only [i64_w]; done) | (simp [i64_w, Int.tdiv_eq_ediv_of_nonneg]; done), by repeat (first | exact Drawn0.refl _ | apply Drawn0.step)⟩
             ·
              rw [if_neg c66] at H
              have c66b0 : (x3_2 == (wrap64 ((a0.size : Int) - 1))) = false := beq_eq_false_iff_ne.mpr c66
              have c66b1 : (x3_2 != (wrap64 ((a0.size : Int) - 1))) = true := bne_iff_ne.mpr c66
              (try (have c66b2 : (x3_2 == (IntKind.i64.wrap ((a0.size : Int) - 1))) = false := by have h_ : (x3_2 == (wrap64 ((a0.size : Int) - 1))) = false := beq_eq_false_iff_ne.mpr c66; simp only [i64_w]; exact h_))
              (try (have c66b3 : (x3_2 != (IntKind.i64.wrap ((a0.size : Int) - 1))) = true := by have h_ : (x3_2 != (wrap64 ((a0.size : Int) - 1))) = true := bne_iff_ne.mpr c66; simp only [i64_w]; exact h_))
              by_cases c68 : ((bt a0 x3_2) ≤ 57)
              ·
               rw [if_pos c68] at H
               have c68b0 : decide ((bt a0 x3_2) ≤ 57) = true := decide_eq_true c68
               clear c68
               have H' := Aside0.mk H
               clear H
               have p7 : 0 ≤ (x3_2 : Int) := of_decide_eq_true (by first | (with_reducible assumption) | assumption)
               have q7 : x3_2 < (a0.size : Int) := of_decide_eq_true (by first | (with_reducible assumption) | assumption)
               have hx7 := bt_at a0 x3_2
               replace p7 := eq_true p7
               replace q7 := eq_true q7
               go_wp2
               go_roundg k2
               case measure => have := HJ1.out; have := HK2.out; omega
               case rel => exact ⟨(wrap64 (x3_2 + 1)), (by first | rfl | (simp; done) | (simp [*]; done) | (simp only [i64_w]; done) | (simp [i64_w, Int.tdiv_eq_ediv_of_nonneg]; done)), H', ⟨by have := HJ1.out; have := HK2.out; omega⟩, by repeat (first | exact Drawn0.refl _ | apply Drawn0.step)⟩
              ·
               rw [if_neg c68] at H
               have c68b0 : decide ((bt a0 x3_2) ≤ 57) = false := decide_eq_false c68
               clear c68
               have H' := Aside0.mk H
               clear H
               have p7 : 0 ≤ (x3_2 : Int) := of_decide_eq_true (by first | (with_reducible assumption) | assumption)
               have q7 : x3_2 < (a0.size : Int) := of_decide_eq_true (by first | (with_reducible assumption) | assumption)
               have hx7 := bt_at a0 x3_2
               replace p7 := eq_true p7
               replace q7 := eq_true q7
               go_wp2
               go_roundg k2
               case measure => have := HJ1.out; have := HK2.out; omega
               case rel => exact ⟨(wrap64 (x3_2 + 1)), (by first | rfl | (simp; done) | (simp [*]; done) | (simp only [i64_w]; done) | (simp [i64_w, Int.tdiv_eq_ediv_of_nonneg]; done)), H', ⟨by have := HJ1.out; have := HK2.out; omega⟩, by repeat (first | exact Drawn0.refl _ | apply Drawn0.step)⟩
           ·
            rw [if_neg c64] at H
            have c64b0 : ((bt a0 x3_2) == 46) = false := beq_eq_false_iff_ne.mpr c64
            have c64b1 : ((bt a0 x3_2) != 46) = true := bne_iff_ne.mpr c64
            by_cases c69 : x3_2 = 0
            ·
             rw [if_pos c69] at H
             have c69b0 : (x3_2 == 0) = true := beq_iff_eq.mpr c69
             have c69b1 : (x3_2 != 0) = false := bne_eq_false_iff_eq.mpr c69
             clear c69
             obtain rfl := Option.some.inj H
             have p7 : 0 ≤ (x3_2 : Int) := of_decide_eq_true (by first | (with_reducible assumption) | assumption)
             have q7 : x3_2 < (a0.size : Int) := of_decide_eq_true (by first | (with_reducible assumption) | assumption)
             have hx7 := bt_at a0 x3_2
             replace p7 := eq_true p7
             replace q7 := eq_true q7
             go_wp2
             go_ret
             exact ⟨by first | rfl | (simp; done) | (simp [*]; done) | (simp only [i64_w]; done) | (simp [i64_w, Int.tdiv_eq_ediv_of_nonneg]; done), by repeat (first | exact Drawn0.refl _ | apply Drawn0.step)⟩
            ·
             rw [if_neg c69] at H
             have c69b0 : (x3_2 == 0) = false := beq_eq_false_iff_ne.mpr c69
             have c69b1 : (x3_2 != 0) = true := bne_iff_ne.mpr c69
             by_cases c70 : x3_2 = (wrap64 ((a0.size : Int) - 1))
             ·
              rw [if_pos c70] at H
              have c70b0 : (x3_2 == (wrap64 ((a0.size : Int) - 1))) = true := beq_iff_eq.mpr c70
              have c70b1 : (x3_2 != (wrap64 ((a0.size : Int) - 1))) = false := bne_eq_false_iff_eq.mpr c70
              (try (have c70b2 : (x3_2 == (IntKind.i64.wrap ((a0.size : Int) - 1))) = true := by have h_ : (x3_2 == (wrap64 ((a0.size : Int) - 1))) = true := beq_iff_eq.mpr c70; simp only [i64_w]; exact h_))
              (try (have c70b3 : (x3_2 != (IntKind.i64.wrap ((a0.size : Int) - 1))) = false := by have h_ : (x3_2 != (wrap64 ((a0.size : Int) - 1))) = false := bne_eq_false_iff_eq.mpr c70; simp only [i64_w]; exact h_))
              clear c70
              by_cases c71 : ((bt a0 x3_2) ≤ 57)
              ·
               rw [if_pos c71] at H
               have c71b0 : decide ((bt a0 x3_2) ≤ 57) = true := decide_eq_true c71
               clear c71
               have H' := Aside0.mk H
               clear H
               have p7 : 0 ≤ (x3_2 : Int) := of_decide_eq_true (by first | (with_reducible assumption) | assumption)
               have q7 : x3_2 < (a0.size : Int) := of_decide_eq_true (by first | (with_reducible assumption) | assumption)
               have hx7 := bt_at a0 x3_2
               replace p7 := eq_true p7
               replace q7 := eq_true q7
               go_wp2
               go_roundg k2
               case measure => have := HJ1.out; have := HK2.out; omega
               case rel => exact ⟨(wrap64 (x3_2 + 1)), (by first | rfl | (simp; done) | (simp [*]; done) | (simp only [i64_w]; done) | (simp [i64_w, Int.tdiv_eq_ediv_of_nonneg]; done)), H', ⟨by have := HJ1.out; have := HK2.out; omega⟩, by repeat (first | exact Drawn0.refl _ | apply Drawn0.step)⟩
              ·
               rw [if_neg c71] at H
               have c71b0 : decide ((bt a0 x3_2) ≤ 57) = false := decide_eq_false c71
               clear c71
               obtain rfl := Option.some.inj H
               have p7 : 0 ≤ (x3_2 : Int) := of_decide_eq_true (by first | (with_reducible assumption) | assumption)
               have q7 : x3_2 < (a0.size : Int) := of_decide_eq_true (by first | (with_reducible assumption) | assumption)
               have hx7 := bt_at a0 x3_2
               replace p7 := eq_true p7
               replace q7 := eq_true q7
               go_wp2
               go_ret
               exact ⟨by first | rfl | (simp; done) | (simp [*]; done) | (simp only [i64_w]; done) | (simp [i64_w, Int.tdiv_eq_ediv_of_nonneg]; done), by repeat (first | exact Drawn0.refl _ | apply Drawn0.step)⟩
             ·
              rw [if_neg c70] at H
              have c70b0 : (x3_2 == (wrap64 ((a0.size : Int) - 1))) = false := beq_eq_false_iff_ne.mpr c70
              have c70b1 : (x3_2 != (wrap64 ((a0.size : Int) - 1))) = true := bne_iff_ne.mpr c70
              (try (have c70b2 : (x3_2 == (IntKind.i64.wrap ((a0.size : Int) - 1))) = false := by have h_ : (x3_2 == (wrap64 ((a0.size : Int) - 1))) = false := beq_eq_false_iff_ne.mpr c70; simp only [i64_w]; exact h_))
              (try (have c70b3 : (x3_2 != (IntKind.i64.wrap ((a0.size : Int) - 1))) = true := by have h_ : (x3_2 != (wrap64 ((a0.size : Int) - 1))) = true := bne_iff_ne.mpr c70; simp only [i64_w]; exact h_))
              by_cases c72 : ((bt a0 x3_2) ≤ 57)
              ·
               rw [if_pos c72] at H
               have c72b0 : decide ((bt a0 x3_2) ≤ 57) = true := decide_eq_true c72
               clear c72
               have H' := Aside0.mk H
               clear H
               have p7 : 0 ≤ (x3_2 : Int) := of_decide_eq_true (by first | (with_reducible assumption) | assumption)
               have q7 : x3_2 < (a0.size : Int) := of_decide_eq_true (by first | (with_reducible assumption) | assumption)
               have hx7 := bt_at a0 x3_2
               replace p7 := eq_true p7
               replace q7 := eq_true q7
               go_wp2
               go_roundg k2
               case measure => have := HJ1.out; have := HK2.out; omega
               case rel => exact ⟨(wrap64 (x3_2 + 1)), (by first | rfl | (simp; done) | (simp [*]; done) | (simp only [i64_w]; done) | (simp [i64_w, Int.tdiv_eq_ediv_of_nonneg]; done)), H', ⟨by have := HJ1.out; have := HK2.out; omega⟩, by repeat (first | exact Drawn0.refl _ | apply Drawn0.step)⟩
              ·
               rw [if_neg c72] at H
               have c72b0 : decide ((bt a0 x3_2) ≤ 57) = false := decide_eq_false c72
               clear c72
               by_cases c73 : ((bt a0 x3_2) = 47)
               ·
                rw [if_pos c73] at H
                have c73b0 : ((bt a0 x3_2) == 47) = true := beq_iff_eq.mpr c73
                have c73b1 : ((bt a0 x3_2) != 47) = false := bne_eq_false_iff_eq.mpr c73
                clear c73
                have H' := Aside0.mk H
                clear H
                have p7 : 0 ≤ (x3_2 : Int) := of_decide_eq_true (by first | (with_reducible assumption) | assumption)
                have q7 : x3_2 < (a0.size : Int) := of_decide_eq_true (by first | (with_reducible assumption) | assumption)
                have hx7 := bt_at a0 x3_2
                replace p7 := eq_true p7
                replace q7 := eq_true q7
                go_wp2
                go_roundg k2
                case measure => have := HJ1.out; have := HK2.out; omega
                case rel => exact ⟨(wrap64 (x3_2 + 1)), (by first | rfl | (simp; done) | (simp [*]; done) | (simp only [i64_w]; done) | (simp [i64_w, Int.tdiv_eq_ediv_of_nonneg]; done)), H', ⟨by have := HJ1.out; have := HK2.out; omega⟩, by repeat (first | exact Drawn0.refl _ | apply Drawn0.step)⟩
               ·
                rw [if_neg c73] at H
                have c73b0 : ((bt a0 x3_2) == 47) = false := beq_eq_false_iff_ne.mpr c73
                have c73b1 : ((bt a0 x3_2) != 47) = true := bne_iff_ne.mpr c73
                obtain rfl := Option.some.inj H
                have p7 : 0 ≤ (x3_2 : Int) := of_decide_eq_true (by first | (with_reducible assumption) | assumption)
                have q7 : x3_2 < (a0.size : Int) := of_decide_eq_true (by first | (with_reducible assumption) | assumption)
                have hx7 := bt_at a0 x3_2
                replace p7 := eq_true p7
                replace q7 := eq_true q7
                go_wp2
                go_ret
                exact ⟨by first | rfl | (simp; done) | (simp [*]; done) | (simp only [i64_w]; done) | (simp [i64_w, Int.tdiv_eq_ediv_of_nonneg]; done), by repeat (first | exact Drawn0.refl _ | apply Drawn0.step)⟩
         ·
          rw [if_neg c58] at H
          have c58b0 : decide (48 ≤ (bt a0 x3_2)) = false := decide_eq_false c58
          clear c58
          by_cases c74 : (bt a0 x3_2) = 45
          ·
           rw [if_pos c74] at H
           have c74b0 : ((bt a0 x3_2) == 45) = true := beq_iff_eq.mpr c74
           have c74b1 : ((bt a0 x3_2) != 45) = false := bne_eq_false_iff_eq.mpr c74
           clear c74
           by_cases c75 : x3_2 = 0
           ·
            rw [if_pos c75] at H
            have c75b0 : (x3_2 == 0) = true := beq_iff_eq.mpr c75
            have c75b1 : (x3_2 != 0) = false := bne_eq_false_iff_eq.mpr c75
            clear c75
            obtain rfl := Option.some.inj H
            have p7 : 0 ≤ (x3_2 : Int) := of_decide_eq_true (by first | (with_reducible assumption) | assumption)
            have q7 : x3_2 < (a0.size : Int) := of_decide_eq_true (by first | (with_reducible assumption) | assumption)
            have hx7 := bt_at a0 x3_2
            replace p7 := eq_true p7
            replace q7 := eq_true q7
            go_wp2
            go_ret
            exact ⟨by first | rfl | (simp; done) | (simp [*]; done) | (simp only [i64_w]; done) | (simp [i64_w, Int.tdiv_eq_ediv_of_nonneg]; done), by repeat (first | exact Drawn0.refl _ | apply Drawn0.step)⟩
           ·
            rw [if_neg c75] at H
            have c75b0 : (x3_2 == 0) = false := beq_eq_false_iff_ne.mpr c75
            have c75b1 : (x3_2 != 0) = true := bne_iff_ne.mpr c75
            by_cases c76 : x3_2 = (wrap64 ((a0.size : Int) - 1))
            ·
             rw [if_pos c76] at H
             have c76b0 : (x3_2 == (wrap64 ((a0.size : Int) - 1))) = true := beq_iff_eq.mpr c76
             have c76b1 : (x3_2 != (wrap64 ((a0.size : Int) - 1))) = false := bne_eq_false_iff_eq.mpr c76
             (try (have c76b2 : (x3_2 == (IntKind.i64.wrap ((a0.size : Int) - 1))) = true := by have h_ : (x3_2 == (wrap64 ((a0.size : Int) - 1))) = true := beq_iff_eq.mpr c76; simp only [i64_w]; exact h_))
             (try (have c76b3 : (x3_2 != (IntKind.i64.wrap ((a0.size : Int) - 1))) = false := by have h_ : (x3_2 != (wrap64 ((a0.size : Int) - 1))) = false := bne_eq_false_iff_eq.mpr c76; simp only [i64_w]; exact h_))
             clear c76
             obtain rfl := Option.some.inj H
             have p7 : 0 ≤ (x3_2 : Int) := of_decide_eq_true (by first | (with_reducible assumption) | assumption)
             have q7 : x3_2 < (a0.size : Int) := of_decide_eq_true (by first | (with_reducible assumption) | assumption)
             have hx7 := bt_at a0 x3_2
             replace p7 := eq_true p7
             replace q7 := eq_true q7
             go_wp2
             go_ret
             exact ⟨by first | rfl | (simp; done) | (simp [*]; done) | (simp only [i64_w]; done) | (simp [i64_w, Int.tdiv_eq_ediv_of_nonneg]; done), by repeat (first | exact Drawn0.refl _ | apply Drawn0.step)⟩
            ·
             rw [if_neg c76] at H
             have c76b0 : (x3_2 == (wrap64 ((a0.size : Int) - 1))) = false := beq_eq_false_iff_ne.mpr c76
             have c76b1 : (x3_2 != (wrap64 ((a0.size : Int) - 1))) = true := bne_iff_ne.mpr c76
             (try (have c76b2 : (x3_2 == (IntKind.i64.wrap ((a0.size : Int) - 1))) = false := by have h_ : (x3_2 == (wrap64 ((a0.size : Int) - 1))) = false := beq_eq_false_iff_ne.mpr c76; simp only [i64_w]; exact h_))
             (try (have c76b3 : (x3_2 != (IntKind.i64.wrap ((a0.size : Int) - 1))) = true := by have h_ : (x3_2 != (wrap64 ((a0.size : Int) - 1))) = true := bne_iff_ne.mpr c76; simp only [i64_w]; exact h_))
             have H' := Aside0.mk H
             clear H
             have p7 : 0 ≤ (x3_2 : Int) := of_decide_eq_true (by first | (with_reducible assumption) | assumption)
             have q7 : x3_2 < (a0.size : Int) := of_decide_eq_true (by first | (with_reducible assumption) | assumption)
             have hx7 := bt_at a0 x3_2
             replace p7 := eq_true p7
             replace q7 := eq_true q7
             go_wp2
             go_roundg k2
             case measure => have := HJ1.out; have := HK2.out; omega
             case rel => exact ⟨(wrap64 (x3_2 + 1)), (by first | rfl | (simp; done) | (simp [*]; done) | (simp only [i64_w]; done) | (simp [i64_w, Int.tdiv_eq_ediv_of_nonneg]; done)), H', ⟨by have := HJ1.out; have := HK2.out; omega⟩, by repeat (first | exact Drawn0.refl _ | apply Drawn0.step)⟩
          ·
           rw [if_neg c74] at H
           have c74b0 : ((bt a0 x3_2) == 45) = false := beq_eq_false_iff_ne.mpr c74
           have c74b1 : ((bt a0 x3_2) != 45) = true := bne_iff_ne.mpr c74
           by_cases c77 : (bt a0 x3_2) = 46
           ·
            rw [if_pos c77] at H
            have c77b0 : ((bt a0 x3_2) == 46) = true := beq_iff_eq.mpr c77
            have c77b1 : ((bt a0 x3_2) != 46) = false := bne_eq_false_iff_eq.mpr c77
            clear c77
            by_cases c78 : x3_2 = 0
            ·
             rw [if_pos c78] at H
             have c78b0 : (x3_2 == 0) = true := beq_iff_eq.mpr c78
             have c78b1 : (x3_2 != 0) = false := bne_eq_false_iff_eq.mpr c78
             clear c78
             obtain rfl := Option.some.inj H
             have p7 : 0 ≤ (x3_2 : Int) := of_decide_eq_true (by first | (with_reducible assumption) | assumption)
             have q7 : x3_2 < (a0.size : Int) := of_decide_eq_true (by first | (with_reducible assumption) | assumption)
             have hx7 := bt_at a0 x3_2
             replace p7 := eq_true p7
             replace q7 := eq_true q7
             go_wp2
             go_ret
             exact ⟨by first | rfl | (simp; done) | (simp [*]; done) | (simp only [i64_w]; done) | (simp [i64_w, Int.tdiv_eq_ediv_of_nonneg]; done), by repeat (first | exact Drawn0.refl _ | apply Drawn0.step)⟩
            ·
             rw [if_neg c78] at H
             have c78b0 : (x3_2 == 0) = false := beq_eq_false_iff_ne.mpr c78
             have c78b1 : (x3_2 != 0) = true := bne_iff_ne.mpr c78
             by_cases c79 : x3_2 = (wrap64 ((a0.size : Int) - 1))
             ·
              rw [if_pos c79] at H
              have c79b0 : (x3_2 == (wrap64 ((a0.size : Int) - 1))) = true := beq_iff_eq.mpr c79
              have c79b1 : (x3_2 != (wrap64 ((a0.size : Int) - 1))) = false := bne_eq_false_iff_eq.mpr c79
              (try (have c79b2 : (x3_2 == (IntKind.i64.wrap ((a0.size : Int) - 1))) = true := by have h_ : (x3_2 == (wrap64 ((a0.size : Int) - 1))) = true := beq_iff_eq.mpr c79; simp only [i64_w]; exact h_))
              (try (have c79b3 : (x3_2 != (IntKind.i64.wrap ((a0.size : Int) - 1))) = false := by have h_ : (x3_2 != (wrap64 ((a0.size : Int) - 1))) = false := bne_eq_false_iff_eq.mpr c79; simp only [i64_w]; exact h_))
              clear c79
              obtain rfl := Option.some.inj H
              have p7 : 0 ≤ (x3_2 : Int) := of_decide_eq_true (by first | (with_reducible assumption) | assumption)
              have q7 : x3_2 < (a0.size : Int) := of_decide_eq_true (by first | (with_reducible assumption) | assumption)
              have hx7 := bt_at a0 x3_2
              replace p7 := eq_true p7
              replace q7 := eq_true q7
              go_wp2
              go_ret
              exact ⟨by first | rfl | (simp; done) | (simp [*]; done) | (simp only [i64_w]; done) | (simp [i64_w, Int.tdiv_eq_ediv_of_nonneg]; done), by repeat (first | exact Drawn0.refl _ | apply Drawn0.step)⟩
             ·
              rw [if_neg c79] at H
              have c79b0 : (x3_2 == (wrap64 ((a0.size : Int) - 1))) = false := beq_eq_false_iff_ne.mpr c79
              have c79b1 : (x3_2 != (wrap64 ((a0.size : Int) - 1))) = true := bne_iff_ne.mpr c79
              (try (have c79b2 : (x3_2 == (IntKind.i64.wrap ((a0.size : Int) - 1))) = false := by have h_ : (x3_2 == (wrap64 ((a0.size : Int) - 1))) = false := beq_eq_false_iff_ne.mpr c79; simp only [i64_w]; exact h_))
              (try (have c79b3 : (x3_2 != (IntKind.i64.wrap ((a0.size : Int) - 1))) = true := by have h_ : (x3_2 != (wrap64 ((a0.size : Int) - 1))) = true := bne_iff_ne.mpr c79; simp only [i64_w]; exact h_))
              have H' := Aside0.mk H
              clear H
              have p7 : 0 ≤ (x3_2 : Int) := of_decide_eq_true (by first | (with_reducible assumption) | assumption)
              have q7 : x3_2 < (a0.size : Int) := of_decide_eq_true (by first | (with_reducible assumption) | assumption)
              have hx7 := bt_at a0 x3_2
              replace p7 := eq_true p7
              replace q7 := eq_true q7
              go_wp2
              go_roundg k2
              case measure => have := HJ1.out; have := HK2.out; omega
              case rel => exact ⟨(wrap64 (x3_2 + 1)), (by first | rfl | (simp; done) | (simp [*]; done) | (simp only [i64_w]; done) | (simp [i64_w, Int.tdiv_eq_ediv_of_nonneg]; done)), H', ⟨by have := HJ1.out; have := HK2.out; omega⟩, by repeat (first | exact Drawn0.refl _ | apply Drawn0.step)⟩
           ·
            rw [if_neg c77] at H
            have c77b0 : ((bt a0 x3_2) == 46) = false := beq_eq_false_iff_ne.mpr c77
            have c77b1 : ((bt a0 x3_2) != 46) = true := bne_iff_ne.mpr c77
            by_cases c80 : x3_2 = 0
            ·
             rw [if_pos c80] at H
             have c80b0 : (x3_2 == 0) = true := beq_iff_eq.mpr c80
             have c80b1 : (x3_2 != 0) = false := bne_eq_false_iff_eq.mpr c80
             clear c80
             obtain rfl := Option.some.inj H
             have p7 : 0 ≤ (x3_2 : Int) := of_decide_eq_true (by first | (with_reducible assumption) | assumption)
             have q7 : x3_2 < (a0.size : Int) := of_decide_eq_true (by first | (with_reducible assumption) | assumption)
             have hx7 := bt_at a0 x3_2
             replace p7 := eq_true p7
             replace q7 := eq_true q7
             go_wp2
             go_ret
             exact ⟨by first | rfl | (simp; done) | (simp [*]; done) | (simp only [i64_w]; done) | (simp [i64_w, Int.tdiv_eq_ediv_of_nonneg]; done), by repeat (first | exact Drawn0.refl _ | apply Drawn0.step)⟩
            ·
             rw [if_neg c80] at H
             have c80b0 : (x3_2 == 0) = false := beq_eq_false_iff_ne.mpr c80
             have c80b1 : (x3_2 != 0) = true := bne_iff_ne.mpr c80
             by_cases c81 : x3_2 = (wrap64 ((a0.size : Int) - 1))
             ·
              rw [if_pos c81] at H
              have c81b0 : (x3_2 == (wrap64 ((a0.size : Int) - 1))) = true := beq_iff_eq.mpr c81
              have c81b1 : (x3_2 != (wrap64 ((a0.size : Int) - 1))) = false := bne_eq_false_iff_eq.mpr c81
              (try (have c81b2 : (x3_2 == (IntKind.i64.wrap ((a0.size : Int) - 1))) = true := by have h_ : (x3_2 == (wrap64 ((a0.size : Int) - 1))) = true := beq_iff_eq.mpr c81; simp only [i64_w]; exact h_))
              (try (have c81b3 : (x3_2 != (IntKind.i64.wrap ((a0.size : Int) - 1))) = false := by have h_ : (x3_2 != (wrap64 ((a0.size : Int) - 1))) = false := bne_eq_false_iff_eq.mpr c81; simp only [i64_w]; exact h_))
              clear c81
              obtain rfl := Option.some.inj H
              have p7 : 0 ≤ (x3_2 : Int) := of_decide_eq_true (by first | (with_reducible assumption) | assumption)
              have q7 : x3_2 < (a0.size : Int) := of_decide_eq_true (by first | (with_reducible assumption) | assumption)
              have hx7 := bt_at a0 x3_2
              replace p7 := eq_true p7
              replace q7 := eq_true q7
              go_wp2
              go_ret
              exact ⟨by first | rfl | (simp; done) | (simp [*]; done) | (simp only [i64_w]; done) | (simp [i64_w, Int.tdiv_eq_ediv_of_nonneg]; done), by repeat (first | exact Drawn0.refl _ | apply Drawn0.step)⟩
             ·
              rw [if_neg c81] at H
              have c81b0 : (x3_2 == (wrap64 ((a0.size : Int) - 1))) = false := beq_eq_false_iff_ne.mpr c81
              have c81b1 : (x3_2 != (wrap64 ((a0.size : Int) - 1))) = true := bne_iff_ne.mpr c81
              (try (have c81b2 : (x3_2 == (IntKind.i64.wrap ((a0.size : Int) - 1))) = false := by have h_ : (x3_2 == (wrap64 ((a0.size : Int) - 1))) = false := beq_eq_false_iff_ne.mpr c81; simp only [i64_w]; exact h_))
              (try (have c81b3 : (x3_2 != (IntKind.i64.wrap ((a0.size : Int) - 1))) = true := by have h_ : (x3_2 != (wrap64 ((a0.size : Int) - 1))) = true := bne_iff_ne.mpr c81; simp only [i64_w]; exact h_))
              by_cases c82 : ((bt a0 x3_2) = 47)
              ·
               rw [if_pos c82] at H
               have c82b0 : ((bt a0 x3_2) == 47) = true := beq_iff_eq.mpr c82
               have c82b1 : ((bt a0 x3_2) != 47) = false := bne_eq_false_iff_eq.mpr c82
               clear c82
               have H' := Aside0.mk H
               clear H
               have p7 : 0 ≤ (x3_2 : Int) := of_decide_eq_true (by first | (with_reducible assumption) | assumption)
               have q7 : x3_2 < (a0.size : Int) := of_decide_eq_true (by first | (with_reducible assumption) | assumption)
               have hx7 := bt_at a0 x3_2
               replace p7 := eq_true p7
               replace q7 := eq_true q7
               go_wp2
               go_roundg k2
               case measure => have := HJ1.out; have := HK2.out; omega
               case rel => exact ⟨(wrap64 (x3_2 + 1)), (by first | rfl | (simp; done) | (simp [*]; done) | (simp only [i64_w]; done) | (simp [i64_w, Int.tdiv_eq_ediv_of_nonneg]; done)), H', ⟨by have := HJ1.out; have := HK2.out; omega⟩, by repeat (first | exact Drawn0.refl _ | apply Drawn0.step)⟩
              ·
               rw [if_neg c82] at H
               have c82b0 : ((bt a0 x3_2) == 47) = false := beq_eq_false_iff_ne.mpr c82
               have c82b1 : ((bt a0 x3_2) != 47) = true := bne_iff_ne.mpr c82
               obtain rfl := Option.some.inj H
               have p7 : 0 ≤ (x3_2 : Int) := of_decide_eq_true (by first | (with_reducible assumption) | assumption)
               have q7 : x3_2 < (a0.size : Int) := of_decide_eq_true (by first | (with_reducible assumption) | assumption)
               have hx7 := bt_at a0 x3_2
               replace p7 := eq_true p7
               replace q7 := eq_true q7
               go_wp2
               go_ret
               exact ⟨by first | rfl | (simp; done) | (simp [*]; done) | (simp only [i64_w]; done) | (simp [i64_w, Int.tdiv_eq_ediv_of_nonneg]; done), by repeat (first | exact Drawn0.refl _ | apply Drawn0.step)⟩
       ·
        rw [if_neg c6] at H
        exact absurd H (by simp)
      ·
       rw [if_neg c5] at H
       have c5b0 : decide (x3_2 < (a0.size : Int)) = false := decide_eq_false c5
       clear c5
       obtain rfl := Option.some.inj H
       go_wp2
       go_ret
       exact ⟨by first | rfl | (simp; done) | (simp [*]; done) | (simp only [i64_w]; done) | (simp [i64_w, Int.tdiv_eq_ediv_of_nonneg]; done), by repeat (first | exact Drawn0.refl _ | apply Drawn0.step)⟩
end Go.Proofs.Ytbibnendaddbhaa.All
