/- A part of the proof of AuditAgrees: walks written by a program of this session. -/
import Derived.Test.YtbnplhmmbnmagaazAHm2
import Derived.Test.YtbnplhmmbnmagaazAHm3
namespace Go.Proofs.Ytbnplhmmbnmagaa.All
open Go.RowKit Go.Proofs.YtbnplhmmbnmagaaW.PrintWords Go.Proofs.YtbnplhmmbnmagaaW.PrintLast Go.Proofs.YtbnplhmmbnmagaaW.PrintMore
attribute [local go_sem] max2_int min2_int max_two min_two max_three min_three max_four min_four
attribute [local go_sem] Go.Proofs.YtbnplhmmbnmagaaX.binOp_leq Go.Proofs.YtbnplhmmbnmagaaX.binOp_geq Go.Proofs.YtbnplhmmbnmagaaX.binOp_gtr
set_option linter.unusedVariables false
set_option linter.unusedSimpArgs false
def code_shortText.f (a0 : ByteArray) : Option (Bool) := some (decide ((a0.size : Int) ≤ 127))
set_option maxHeartbeats 8000000 in
set_option maxRecDepth 100000 in
theorem code_shortText.calls (a0 : ByteArray) (r : Bool) (w : World) (h : code_shortText.f a0 = some r) :
 Calls Try.prog 72 #[.string a0] w fun e w' => e = .returned (.bool r) ∧ Drawn0 w w' := by
 have H : (some (decide ((a0.size : Int) ≤ 127))) = some r := h
 clear h
 obtain rfl := Option.some.inj H
 go_enter Try.func72, Try.ntmps72
 go_wp2
 go_ret
 exact ⟨by first | rfl | (simp; done) | (simp [*]; done) | (simp only [i64_w]; done) | (simp [i64_w, Int.tdiv_eq_ediv_of_nonneg]; done), by repeat (first | exact Drawn0.refl _ | apply Drawn0.step)⟩
def code_rises_string_70.l0 : Nat → List ByteArray → List ByteArray → Int → Int → Option (Bool)
  | 0, _, _, _, _ => none
  | k + 1, x0, x9, x10, x11 => if x11 < x10 then (if 0 ≤ x11 then (if x11 < (x9.length : Int) then ((code_shortText.f (rdOf ByteArray.empty x9 x11)).bind fun t461 => (if t461 = true then (if x11 > 0 then (if 0 ≤ (wrap64 (x11 - 1)) then (if (wrap64 (x11 - 1)) < (x0.length : Int) then ((cmp_Compare_string.f (rdOf ByteArray.empty x0 (wrap64 (x11 - 1))) (rdOf ByteArray.empty x9 x11)).bind fun t463 => (if t463 ≥ 0 then (some false) else (code_rises_string_70.l0 k x0 x9 x10 (wrap64 (x11 + 1))))) else (none)) else (none)) else (code_rises_string_70.l0 k x0 x9 x10 (wrap64 (x11 + 1)))) else (some false))) else (none)) else (none)) else (some true)
def code_rises_string_70.f (k : Nat) (l0 : List ByteArray) : Option (Bool) := code_rises_string_70.l0 k l0 l0 (l0.length : Int) 0
set_option maxHeartbeats 8000000 in
set_option maxRecDepth 100000 in
theorem code_rises_string_70.calls (k : Nat) (A0 : Option Addr) (c0 : Nat) (l0 : List ByteArray) (r : Bool) (w : World) (hr0 : Kd.C Kd.string w A0 l0.length l0) (hc0 : l0.length ≤ c0) (h : code_rises_string_70.f k l0 = some r) :
 Calls Try.prog 70 #[.slice A0 l0.length c0, .func (.func 71) #[] #[], .func (.func 72) #[] #[]] w fun e w' => e = .returned (.bool r) ∧ Drawn0 w w' := by
 have HR0 := Aside0.mk hr0
 have HC0 := Aside0.mk hc0
 clear hr0 hc0
 have H : (code_rises_string_70.l0 k l0 l0 (l0.length : Int) 0) = some r := h
 clear h
 have H' := Aside0.mk H
 clear H
 go_enter Try.func70, Try.ntmps70
 go_wp2
 go_loopg [11] k (fun kq v11 w' => ∃ (x11_1 : Int), v11 = .int .i64 x11_1 ∧ Aside0 (code_rises_string_70.l0 kq l0 l0 (l0.length : Int) x11_1 = some r) ∧ Aside0 (kq ≤ k) ∧ Drawn0 w w')
 case atStart => exact ⟨(0), (by first | rfl | (simp; done) | (simp [*]; done) | (simp only [i64_w]; done) | (simp [i64_w, Int.tdiv_eq_ediv_of_nonneg]; done)), H', ⟨Nat.le_refl _⟩, by repeat (first | exact Drawn0.refl _ | apply Drawn0.step)⟩
 case round =>
  clear H'
  obtain ⟨x11_1, rfl, HA, HK1, ⟨m1, rfl⟩⟩ := hrel
  cases gk with
  | zero => exact absurd HA.out (by simp [code_rises_string_70.l0])
  | succ k1 =>
   have H := HA.out
   clear HA
   simp only [code_rises_string_70.l0] at H
   by_cases c2 : x11_1 < (l0.length : Int)
   ·
    rw [if_pos c2] at H
    have c2b0 : decide (x11_1 < (l0.length : Int)) = true := decide_eq_true c2
    clear c2
    by_cases c3 : 0 ≤ x11_1
    ·
     rw [if_pos c3] at H
     have c3b0 : decide (0 ≤ x11_1) = true := decide_eq_true c3
     clear c3
     by_cases c4 : x11_1 < (l0.length : Int)
     ·
      rw [if_pos c4] at H
      have c4b0 : decide (x11_1 < (l0.length : Int)) = true := decide_eq_true c4
      clear c4
      replace H := Option.bind_eq_some_iff.mp H
      obtain ⟨t461, A50, H⟩ := H
      replace H : (if t461 = true then (if x11_1 > 0 then (if 0 ≤ (wrap64 (x11_1 - 1)) then (if (wrap64 (x11_1 - 1)) < (l0.length : Int) then ((cmp_Compare_string.f (rdOf ByteArray.empty l0 (wrap64 (x11_1 - 1))) (rdOf ByteArray.empty l0 x11_1)).bind fun t463 => (if t463 ≥ 0 then (some false) else (code_rises_string_70.l0 k1 l0 l0 (l0.length : Int) (wrap64 (x11_1 + 1))))) else (none)) else (none)) else (code_rises_string_70.l0 k1 l0 l0 (l0.length : Int) (wrap64 (x11_1 + 1)))) else (some false)) = some r := H
      have A5 := Aside0.mk A50
      clear A50
      by_cases c6 : t461 = true
      ·
       subst c6
       have H1 : (if x11_1 > 0 then (if 0 ≤ (wrap64 (x11_1 - 1)) then (if (wrap64 (x11_1 - 1)) < (l0.length : Int) then ((cmp_Compare_string.f (rdOf ByteArray.empty l0 (wrap64 (x11_1 - 1))) (rdOf ByteArray.empty l0 x11_1)).bind fun t463 => (if t463 ≥ 0 then (some false) else (code_rises_string_70.l0 k1 l0 l0 (l0.length : Int) (wrap64 (x11_1 + 1))))) else (none)) else (none)) else (code_rises_string_70.l0 k1 l0 l0 (l0.length : Int) (wrap64 (x11_1 + 1)))) = some r := by rw [if_pos rfl] at H; exact H
       clear H
       have H := H1
       clear H1
       by_cases c7 : x11_1 > 0
       ·
        rw [if_pos c7] at H
        have c7b0 : decide (0 < x11_1) = true := decide_eq_true c7
        clear c7
        obtain ⟨ji8, hji8⟩ : ∃ j_ : Int, (wrap64 (x11_1 - 1)) = j_ := ⟨_, rfl⟩
        replace H : (if 0 ≤ (ji8) then (if (ji8) < (l0.length : Int) then ((cmp_Compare_string.f (rdOf ByteArray.empty l0 (ji8)) (rdOf ByteArray.empty l0 x11_1)).bind fun t463 => (if t463 ≥ 0 then (some false) else (code_rises_string_70.l0 k1 l0 l0 (l0.length : Int) (wrap64 (x11_1 + 1))))) else (none)) else (none)) = some r := by first | (rw [hji8] at H; exact H) | (simp only [hji8] at H ⊢; exact H)
        (try rw [hji8] at A5)
        have hji8w : (IntKind.i64.wrap (x11_1 - 1)) = ji8 := (i64_w _).trans hji8
        by_cases c9 : 0 ≤ (ji8)
        ·
         rw [if_pos c9] at H
         have c9b0 : decide (0 ≤ (ji8)) = true := decide_eq_true c9
         clear c9
         by_cases c10 : (ji8) < (l0.length : Int)
         ·
          rw [if_pos c10] at H
          have c10b0 : decide ((ji8) < (l0.length : Int)) = true := decide_eq_true c10
          clear c10
          replace H := Option.bind_eq_some_iff.mp H
          obtain ⟨t463, A110, H⟩ := H
          replace H : (if t463 ≥ 0 then (some false) else (code_rises_string_70.l0 k1 l0 l0 (l0.length : Int) (wrap64 (x11_1 + 1)))) = some r := H
          have A11 := Aside0.mk A110
          clear A110
          by_cases c12 : t463 ≥ 0
          ·
           rw [if_pos c12] at H
           have c12b0 : decide (0 ≤ t463) = true := decide_eq_true c12
           clear c12
           obtain rfl := Option.some.inj H
           have p460 : 0 ≤ (x11_1 : Int) := of_decide_eq_true (by first | (with_reducible assumption) | assumption)
           have q460 : x11_1 < (l0.length : Int) := of_decide_eq_true (by first | (with_reducible assumption) | assumption)
           obtain ⟨ad460, e460, hx460_0⟩ := Kd.at_string HR0.out x11_1 p460 q460
           cases e460
           replace p460 := eq_true p460
           replace q460 := eq_true q460
           go_wp2_with (first | ((with_reducible refine Go.Proofs.YtbnplhmmbnmagaaX.gate_slot (k := 16) rfl ?_); refine Go.Proofs.YtbnplhmmbnmagaaX.goesS_ (k := 16) (some 18) rfl rfl Try.func72 (by kernel_rfl) rfl rfl #[.string (rdOf ByteArray.empty l0 x11_1)] rfl (by (try simp only [List.map_toArray, List.map_cons, List.map_nil]); first | done | rfl | (simp only [List.length_drop, List.length_take]; rfl)) ?_; (with_reducible refine (code_shortText.calls (rdOf ByteArray.empty l0 x11_1) true _ A5.out).mono ?_); rintro e w' ⟨rfl, ⟨nd, rfl⟩⟩; refine ⟨_, rfl, ?_⟩; have p462 : 0 ≤ ((ji8) : Int) := of_decide_eq_true (by first | (with_reducible assumption) | assumption); have q462 : (ji8) < (l0.length : Int) := of_decide_eq_true (by first | (with_reducible assumption) | assumption); obtain ⟨ad462, e462, hx462_0⟩ := Kd.at_string HR0.out (ji8) p462 q462; obtain rfl : ad460 = ad462 := (by injection e462); replace p462 := eq_true p462; replace q462 := eq_true q462) | (go_at_call 71; (with_reducible refine (cmp_Compare_string.calls (rdOf ByteArray.empty l0 (ji8)) (rdOf ByteArray.empty l0 x11_1) t463 _ A11.out).mono ?_); rintro e w' ⟨rfl, ⟨nd, rfl⟩⟩))
           go_ret
           exact ⟨by first | rfl | (simp; done) | (simp only [← hji8] <;> (first | rfl | simp)) | (simp [*]; done) | (simp only [i64_w]; done) | (simp [i64_w, Int.tdiv_eq_ediv_of_nonneg]; done), by repeat (first | exact Drawn0.refl _ | apply Drawn0.step)⟩
          ·
           rw [if_neg c12] at H
           have c12b0 : decide (0 ≤ t463) = false := decide_eq_false c12
           clear c12
           have H' := Aside0.mk H
           clear H
           have p460 : 0 ≤ (x11_1 : Int) := of_decide_eq_true (by first | (with_reducible assumption) | assumption)
           have q460 : x11_1 < (l0.length : Int) := of_decide_eq_true (by first | (with_reducible assumption) | assumption)
           obtain ⟨ad460, e460, hx460_0⟩ := Kd.at_string HR0.out x11_1 p460 q460
           cases e460
           replace p460 := eq_true p460
           replace q460 := eq_true q460
           go_wp2_with (first | ((with_reducible refine Go.Proofs.YtbnplhmmbnmagaaX.gate_slot (k := 16) rfl ?_); refine Go.Proofs.YtbnplhmmbnmagaaX.goesS_ (k := 16) (some 18) rfl rfl Try.func72 (by kernel_rfl) rfl rfl #[.string (rdOf ByteArray.empty l0 x11_1)] rfl (by (try simp only [List.map_toArray, List.map_cons, List.map_nil]); first | done | rfl | (simp only [List.length_drop, List.length_take]; rfl)) ?_; (with_reducible refine (code_shortText.calls (rdOf ByteArray.empty l0 x11_1) true _ A5.out).mono ?_); rintro e w' ⟨rfl, ⟨nd, rfl⟩⟩; refine ⟨_, rfl, ?_⟩; have p462 : 0 ≤ ((ji8) : Int) := of_decide_eq_true (by first | (with_reducible assumption) | assumption); have q462 : (ji8) < (l0.length : Int) := of_decide_eq_true (by first | (with_reducible assumption) | assumption); obtain ⟨ad462, e462, hx462_0⟩ := Kd.at_string HR0.out (ji8) p462 q462; obtain rfl : ad460 = ad462 := (by injection e462); replace p462 := eq_true p462; replace q462 := eq_true q462) | (go_at_call 71; (with_reducible refine (cmp_Compare_string.calls (rdOf ByteArray.empty l0 (ji8)) (rdOf ByteArray.empty l0 x11_1) t463 _ A11.out).mono ?_); rintro e w' ⟨rfl, ⟨nd, rfl⟩⟩))
           go_roundg k1
           case measure => have := HK1.out; omega
           case rel => exact ⟨(wrap64 (x11_1 + 1)), (by first | rfl | (simp; done) | (simp [*]; done) | (simp only [i64_w]; done) | (simp [i64_w, Int.tdiv_eq_ediv_of_nonneg]; done)), H', ⟨by have := HK1.out; omega⟩, by repeat (first | exact Drawn0.refl _ | apply Drawn0.step)⟩
         ·
          rw [if_neg c10] at H
          exact absurd H (by simp)
        ·
         rw [if_neg c9] at H
         exact absurd H (by simp)
       ·
        rw [if_neg c7] at H
        have c7b0 : decide (0 < x11_1) = false := decide_eq_false c7
        clear c7
        have H' := Aside0.mk H
        clear H
        have p460 : 0 ≤ (x11_1 : Int) := of_decide_eq_true (by first | (with_reducible assumption) | assumption)
        have q460 : x11_1 < (l0.length : Int) := of_decide_eq_true (by first | (with_reducible assumption) | assumption)
        obtain ⟨ad460, e460, hx460_0⟩ := Kd.at_string HR0.out x11_1 p460 q460
        cases e460
        replace p460 := eq_true p460
        replace q460 := eq_true q460
        go_wp2_with (first | ((with_reducible refine Go.Proofs.YtbnplhmmbnmagaaX.gate_slot (k := 16) rfl ?_); refine Go.Proofs.YtbnplhmmbnmagaaX.goesS_ (k := 16) (some 18) rfl rfl Try.func72 (by kernel_rfl) rfl rfl #[.string (rdOf ByteArray.empty l0 x11_1)] rfl (by (try simp only [List.map_toArray, List.map_cons, List.map_nil]); first | done | rfl | (simp only [List.length_drop, List.length_take]; rfl)) ?_; (with_reducible refine (code_shortText.calls (rdOf ByteArray.empty l0 x11_1) true _ A5.out).mono ?_); rintro e w' ⟨rfl, ⟨nd, rfl⟩⟩; refine ⟨_, rfl, ?_⟩))
        go_roundg k1
        case measure => have := HK1.out; omega
        case rel => exact ⟨(wrap64 (x11_1 + 1)), (by first | rfl | (simp; done) | (simp [*]; done) | (simp only [i64_w]; done) | (simp [i64_w, Int.tdiv_eq_ediv_of_nonneg]; done)), H', ⟨by have := HK1.out; omega⟩, by repeat (first | exact Drawn0.refl _ | apply Drawn0.step)⟩
      ·
       replace c6 := Bool.eq_false_iff.mpr c6
       subst c6
       have H1 : (some false) = some r := by rw [if_neg (show ¬ (false = true) by decide)] at H; exact H
       clear H
       have H := H1
       clear H1
       obtain rfl := Option.some.inj H
       have p460 : 0 ≤ (x11_1 : Int) := of_decide_eq_true (by first | (with_reducible assumption) | assumption)
       have q460 : x11_1 < (l0.length : Int) := of_decide_eq_true (by first | (with_reducible assumption) | assumption)
       obtain ⟨ad460, e460, hx460_0⟩ := Kd.at_string HR0.out x11_1 p460 q460
       cases e460
       replace p460 := eq_true p460
       replace q460 := eq_true q460
       go_wp2_with (first | ((with_reducible refine Go.Proofs.YtbnplhmmbnmagaaX.gate_slot (k := 16) rfl ?_); refine Go.Proofs.YtbnplhmmbnmagaaX.goesS_ (k := 16) (some 18) rfl rfl Try.func72 (by kernel_rfl) rfl rfl #[.string (rdOf ByteArray.empty l0 x11_1)] rfl (by (try simp only [List.map_toArray, List.map_cons, List.map_nil]); first | done | rfl | (simp only [List.length_drop, List.length_take]; rfl)) ?_; (with_reducible refine (code_shortText.calls (rdOf ByteArray.empty l0 x11_1) false _ A5.out).mono ?_); rintro e w' ⟨rfl, ⟨nd, rfl⟩⟩; refine ⟨_, rfl, ?_⟩))
       go_ret
       exact ⟨by first | rfl | (simp; done) | (simp [*]; done) | (simp only [i64_w]; done) | (simp [i64_w, Int.tdiv_eq_ediv_of_nonneg]; done), by repeat (first | exact Drawn0.refl _ | apply Drawn0.step)⟩
     ·
      rw [if_neg c4] at H
      exact absurd H (by simp)
    ·
     rw [if_neg c3] at H
     exact absurd H (by simp)
   ·
    rw [if_neg c2] at H
    have c2b0 : decide (x11_1 < (l0.length : Int)) = false := decide_eq_false c2
    clear c2
    obtain rfl := Option.some.inj H
    go_wp2
    go_ret
    exact ⟨by first | rfl | (simp; done) | (simp [*]; done) | (simp only [i64_w]; done) | (simp [i64_w, Int.tdiv_eq_ediv_of_nonneg]; done), by repeat (first | exact Drawn0.refl _ | apply Drawn0.step)⟩
def code_formed_1.f (k : Nat) (l0 : List ByteArray) : Option (Bool) := if (l0.length : Int) ≥ 1 then (if (l0.length : Int) ≤ 1000 then ((code_rises_string_70.f k l0).bind fun t464 => (some t464)) else (some false)) else (some false)
set_option maxHeartbeats 8000000 in
set_option maxRecDepth 100000 in
theorem code_formed_1.calls (k : Nat) (A0 : Option Addr) (c0 : Nat) (l0 : List ByteArray) (r : Bool) (w : World) (hr0 : Kd.C Kd.string w A0 l0.length l0) (hc0 : l0.length ≤ c0) (h : code_formed_1.f k l0 = some r) :
 Calls Try.prog 69 #[.slice A0 l0.length c0] w fun e w' => e = .returned (.bool r) ∧ Drawn0 w w' := by
 have HR0 := Aside0.mk hr0
 have HC0 := Aside0.mk hc0
 clear hr0 hc0
 have H : (if (l0.length : Int) ≥ 1 then (if (l0.length : Int) ≤ 1000 then ((code_rises_string_70.f k l0).bind fun t464 => (some t464)) else (some false)) else (some false)) = some r := h
 clear h
 by_cases c2 : (l0.length : Int) ≥ 1
 ·
  rw [if_pos c2] at H
  have c2b0 : decide (1 ≤ (l0.length : Int)) = true := decide_eq_true c2
  have c2b1 : decide (1 ≤ l0.length) = true := decide_eq_true (by omega)
  clear c2
  by_cases c3 : (l0.length : Int) ≤ 1000
  ·
   rw [if_pos c3] at H
   have c3b0 : decide ((l0.length : Int) ≤ 1000) = true := decide_eq_true c3
   have c3b1 : decide (l0.length ≤ 1000) = true := decide_eq_true (by omega)
   clear c3
   replace H := Option.bind_eq_some_iff.mp H
   obtain ⟨t464, A40, H⟩ := H
   replace H : (some t464) = some r := H
   have A4 := Aside0.mk A40
   clear A40
   obtain rfl := Option.some.inj H
   go_enter Try.func69, Try.ntmps69
   go_wp2_with (first | (go_at_call 70; (with_reducible refine (code_rises_string_70.calls k _ _ l0 t464 _ ?side1 ?side2 A4.out).mono ?_); (case side1 => repeat (first | exact HR0.out | (with_reducible refine Kd.C_alloc ?_ _) | (with_reducible refine Kd.C_drewN ?_ _) | (with_reducible refine Kd.C_drew ?_))); (case side2 => exact HC0.out); rintro e w' ⟨rfl, ⟨nd, rfl⟩⟩))
   go_ret
   exact ⟨by first | rfl | (simp; done) | (simp [*]; done) | (simp only [i64_w]; done) | (simp [i64_w, Int.tdiv_eq_ediv_of_nonneg]; done), by repeat (first | exact Drawn0.refl _ | apply Drawn0.step)⟩
  ·
   rw [if_neg c3] at H
   have c3b0 : decide ((l0.length : Int) ≤ 1000) = false := decide_eq_false c3
   have c3b1 : decide (l0.length ≤ 1000) = false := decide_eq_false (by omega)
   clear c3
   obtain rfl := Option.some.inj H
   go_enter Try.func69, Try.ntmps69
   go_wp2
   go_ret
   exact ⟨by first | rfl | (simp; done) | (simp [*]; done) | (simp only [i64_w]; done) | (simp [i64_w, Int.tdiv_eq_ediv_of_nonneg]; done), by repeat (first | exact Drawn0.refl _ | apply Drawn0.step)⟩
 ·
  rw [if_neg c2] at H
  have c2b0 : decide (1 ≤ (l0.length : Int)) = false := decide_eq_false c2
  have c2b1 : decide (1 ≤ l0.length) = false := decide_eq_false (by omega)
  clear c2
  obtain rfl := Option.some.inj H
  go_enter Try.func69, Try.ntmps69
  go_wp2
  go_ret
  exact ⟨by first | rfl | (simp; done) | (simp [*]; done) | (simp only [i64_w]; done) | (simp [i64_w, Int.tdiv_eq_ediv_of_nonneg]; done), by repeat (first | exact Drawn0.refl _ | apply Drawn0.step)⟩
def code_shortNum.f (a0 : Int) : Option (Bool) := if a0 ≥ (-1000000000000000000) then (some (decide (a0 ≤ 1000000000000000000))) else (some false)
set_option maxHeartbeats 8000000 in
set_option maxRecDepth 100000 in
theorem code_shortNum.calls (a0 : Int) (r : Bool) (w : World) (h : code_shortNum.f a0 = some r) :
 Calls Try.prog 76 #[.int .i64 a0] w fun e w' => e = .returned (.bool r) ∧ Drawn0 w w' := by
 have H : (if a0 ≥ (-1000000000000000000) then (some (decide (a0 ≤ 1000000000000000000))) else (some false)) = some r := h
 clear h
 by_cases c2 : a0 ≥ (-1000000000000000000)
 ·
  rw [if_pos c2] at H
  have c2b0 : decide ((-1000000000000000000) ≤ a0) = true := decide_eq_true c2
  clear c2
  obtain rfl := Option.some.inj H
  go_enter Try.func76, Try.ntmps76
  go_wp2
  go_ret
  exact ⟨by first | rfl | (simp; done) | (simp [*]; done) | (simp only [i64_w]; done) | (simp [i64_w, Int.tdiv_eq_ediv_of_nonneg]; done), by repeat (first | exact Drawn0.refl _ | apply Drawn0.step)⟩
 ·
  rw [if_neg c2] at H
  have c2b0 : decide ((-1000000000000000000) ≤ a0) = false := decide_eq_false c2
  clear c2
  obtain rfl := Option.some.inj H
  go_enter Try.func76, Try.ntmps76
  go_wp2
  go_ret
  exact ⟨by first | rfl | (simp; done) | (simp [*]; done) | (simp only [i64_w]; done) | (simp [i64_w, Int.tdiv_eq_ediv_of_nonneg]; done), by repeat (first | exact Drawn0.refl _ | apply Drawn0.step)⟩
def code_rises_int_74.l0 : Nat → List Int → List Int → Int → Int → Option (Bool)
  | 0, _, _, _, _ => none
  | k + 1, x0, x9, x10, x11 => if x11 < x10 then (if 0 ≤ x11 then (if x11 < (x9.length : Int) then ((code_shortNum.f (rd x9 x11)).bind fun t466 => (if t466 = true then (if x11 > 0 then (if 0 ≤ (wrap64 (x11 - 1)) then (if (wrap64 (x11 - 1)) < (x0.length : Int) then ((cmp_Compare_int.f (rd x0 (wrap64 (x11 - 1))) (rd x9 x11)).bind fun t468 => (if t468 ≥ 0 then (some false) else (code_rises_int_74.l0 k x0 x9 x10 (wrap64 (x11 + 1))))) else (none)) else (none)) else (code_rises_int_74.l0 k x0 x9 x10 (wrap64 (x11 + 1)))) else (some false))) else (none)) else (none)) else (some true)
def code_rises_int_74.f (k : Nat) (l0 : List Int) : Option (Bool) := code_rises_int_74.l0 k l0 l0 (l0.length : Int) 0
set_option maxHeartbeats 8000000 in
set_option maxRecDepth 100000 in
theorem code_rises_int_74.calls (k : Nat) (A0 : Option Addr) (c0 : Nat) (l0 : List Int) (r : Bool) (w : World) (hr0 : Kd.C (Kd.int .i64) w A0 l0.length l0) (hc0 : l0.length ≤ c0) (h : code_rises_int_74.f k l0 = some r) :
 Calls Try.prog 74 #[.slice A0 l0.length c0, .func (.func 75) #[] #[], .func (.func 76) #[] #[]] w fun e w' => e = .returned (.bool r) ∧ Drawn0 w w' := by
 have HR0 := Aside0.mk hr0
 have HC0 := Aside0.mk hc0
 clear hr0 hc0
 have H : (code_rises_int_74.l0 k l0 l0 (l0.length : Int) 0) = some r := h
 clear h
 have H' := Aside0.mk H
 clear H
 go_enter Try.func74, Try.ntmps74
 go_wp2
 go_loopg [11] k (fun kq v11 w' => ∃ (x11_1 : Int), v11 = .int .i64 x11_1 ∧ Aside0 (code_rises_int_74.l0 kq l0 l0 (l0.length : Int) x11_1 = some r) ∧ Aside0 (kq ≤ k) ∧ Drawn0 w w')
 case atStart => exact ⟨(0), (by first | rfl | (simp; done) | (simp [*]; done) | (simp only [i64_w]; done) | (simp [i64_w, Int.tdiv_eq_ediv_of_nonneg]; done)), H', ⟨Nat.le_refl _⟩, by repeat (first | exact Drawn0.refl _ | apply Drawn0.step)⟩
 case round =>
  clear H'
  obtain ⟨x11_1, rfl, HA, HK1, ⟨m1, rfl⟩⟩ := hrel
  cases gk with
  | zero => exact absurd HA.out (by simp [code_rises_int_74.l0])
  | succ k1 =>
   have H := HA.out
   clear HA
   simp only [code_rises_int_74.l0] at H
   by_cases c2 : x11_1 < (l0.length : Int)
   ·
    rw [if_pos c2] at H
    have c2b0 : decide (x11_1 < (l0.length : Int)) = true := decide_eq_true c2
    clear c2
    by_cases c3 : 0 ≤ x11_1
    ·
     rw [if_pos c3] at H
     have c3b0 : decide (0 ≤ x11_1) = true := decide_eq_true c3
     clear c3
     by_cases c4 : x11_1 < (l0.length : Int)
     ·
      rw [if_pos c4] at H
      have c4b0 : decide (x11_1 < (l0.length : Int)) = true := decide_eq_true c4
      clear c4
      replace H := Option.bind_eq_some_iff.mp H
      obtain ⟨t466, A50, H⟩ := H
      replace H : (if t466 = true then (if x11_1 > 0 then (if 0 ≤ (wrap64 (x11_1 - 1)) then (if (wrap64 (x11_1 - 1)) < (l0.length : Int) then ((cmp_Compare_int.f (rd l0 (wrap64 (x11_1 - 1))) (rd l0 x11_1)).bind fun t468 => (if t468 ≥ 0 then (some false) else (code_rises_int_74.l0 k1 l0 l0 (l0.length : Int) (wrap64 (x11_1 + 1))))) else (none)) else (none)) else (code_rises_int_74.l0 k1 l0 l0 (l0.length : Int) (wrap64 (x11_1 + 1)))) else (some false)) = some r := H
      have A5 := Aside0.mk A50
      clear A50
      by_cases c6 : t466 = true
      ·
       subst c6
       have H1 : (if x11_1 > 0 then (if 0 ≤ (wrap64 (x11_1 - 1)) then (if (wrap64 (x11_1 - 1)) < (l0.length : Int) then ((cmp_Compare_int.f (rd l0 (wrap64 (x11_1 - 1))) (rd l0 x11_1)).bind fun t468 => (if t468 ≥ 0 then (some false) else (code_rises_int_74.l0 k1 l0 l0 (l0.length : Int) (wrap64 (x11_1 + 1))))) else (none)) else (none)) else (code_rises_int_74.l0 k1 l0 l0 (l0.length : Int) (wrap64 (x11_1 + 1)))) = some r := by rw [if_pos rfl] at H; exact H
       clear H
       have H := H1
       clear H1
       by_cases c7 : x11_1 > 0
       ·
        rw [if_pos c7] at H
        have c7b0 : decide (0 < x11_1) = true := decide_eq_true c7
        clear c7
        obtain ⟨ji8, hji8⟩ : ∃ j_ : Int, (wrap64 (x11_1 - 1)) = j_ := ⟨_, rfl⟩
        replace H : (if 0 ≤ (ji8) then (if (ji8) < (l0.length : Int) then ((cmp_Compare_int.f (rd l0 (ji8)) (rd l0 x11_1)).bind fun t468 => (if t468 ≥ 0 then (some false) else (code_rises_int_74.l0 k1 l0 l0 (l0.length : Int) (wrap64 (x11_1 + 1))))) else (none)) else (none)) = some r := by first | (rw [hji8] at H; exact H) | (simp only [hji8] at H ⊢; exact H)
        (try rw [hji8] at A5)
        have hji8w : (IntKind.i64.wrap (x11_1 - 1)) = ji8 := (i64_w _).trans hji8
        by_cases c9 : 0 ≤ (ji8)
        ·
         rw [if_pos c9] at H
         have c9b0 : decide (0 ≤ (ji8)) = true := decide_eq_true c9
         clear c9
         by_cases c10 : (ji8) < (l0.length : Int)
         ·
          rw [if_pos c10] at H
          have c10b0 : decide ((ji8) < (l0.length : Int)) = true := decide_eq_true c10
          clear c10
          replace H := Option.bind_eq_some_iff.mp H
          obtain ⟨t468, A110, H⟩ := H
          replace H : (if t468 ≥ 0 then (some false) else (code_rises_int_74.l0 k1 l0 l0 (l0.length : Int) (wrap64 (x11_1 + 1)))) = some r := H
          have A11 := Aside0.mk A110
          clear A110
          by_cases c12 : t468 ≥ 0
          ·
           rw [if_pos c12] at H
           have c12b0 : decide (0 ≤ t468) = true := decide_eq_true c12
           clear c12
           obtain rfl := Option.some.inj H
           have p465 : 0 ≤ (x11_1 : Int) := of_decide_eq_true (by first | (with_reducible assumption) | assumption)
           have q465 : x11_1 < (l0.length : Int) := of_decide_eq_true (by first | (with_reducible assumption) | assumption)
           obtain ⟨ad465, e465, hx465_0⟩ := Kd.at_int HR0.out x11_1 p465 q465
           cases e465
           replace p465 := eq_true p465
           replace q465 := eq_true q465
           go_wp2_with (first | ((with_reducible refine Go.Proofs.YtbnplhmmbnmagaaX.gate_slot (k := 16) rfl ?_); refine Go.Proofs.YtbnplhmmbnmagaaX.goesS_ (k := 16) (some 18) rfl rfl Try.func76 (by kernel_rfl) rfl rfl #[.int .i64 (rd l0 x11_1)] rfl (by (try simp only [List.map_toArray, List.map_cons, List.map_nil]); first | done | rfl | (simp only [List.length_drop, List.length_take]; rfl)) ?_; (with_reducible refine (code_shortNum.calls (rd l0 x11_1) true _ A5.out).mono ?_); rintro e w' ⟨rfl, ⟨nd, rfl⟩⟩; refine ⟨_, rfl, ?_⟩; have p467 : 0 ≤ ((ji8) : Int) := of_decide_eq_true (by first | (with_reducible assumption) | assumption); have q467 : (ji8) < (l0.length : Int) := of_decide_eq_true (by first | (with_reducible assumption) | assumption); obtain ⟨ad467, e467, hx467_0⟩ := Kd.at_int HR0.out (ji8) p467 q467; obtain rfl : ad465 = ad467 := (by injection e467); replace p467 := eq_true p467; replace q467 := eq_true q467) | (go_at_call 75; (with_reducible refine (cmp_Compare_int.calls (rd l0 (ji8)) (rd l0 x11_1) t468 _ A11.out).mono ?_); rintro e w' ⟨rfl, ⟨nd, rfl⟩⟩))
           go_ret
           exact ⟨by first | rfl | (simp; done) | (simp only [← hji8] <;> (first | rfl | simp)) | (simp [*]; done) | (simp only [i64_w]; done) | (simp [i64_w, Int.tdiv_eq_ediv_of_nonneg]; done), by repeat (first | exact Drawn0.refl _ | apply Drawn0.step)⟩
          ·
           rw [if_neg c12] at H
           have c12b0 : decide (0 ≤ t468) = false := decide_eq_false c12
           clear c12
           have H' := Aside0.mk H
           clear H
           have p465 : 0 ≤ (x11_1 : Int) := of_decide_eq_true (by first | (with_reducible assumption) | assumption)
           have q465 : x11_1 < (l0.length : Int) := of_decide_eq_true (by first | (with_reducible assumption) | assumption)
           obtain ⟨ad465, e465, hx465_0⟩ := Kd.at_int HR0.out x11_1 p465 q465
           cases e465
           replace p465 := eq_true p465
           replace q465 := eq_true q465
           go_wp2_with (first | ((with_reducible refine Go.Proofs.YtbnplhmmbnmagaaX.gate_slot (k := 16) rfl ?_); refine Go.Proofs.YtbnplhmmbnmagaaX.goesS_ (k := 16) (some 18) rfl rfl Try.func76 (by kernel_rfl) rfl rfl #[.int .i64 (rd l0 x11_1)] rfl (by (try simp only [List.map_toArray, List.map_cons, List.map_nil]); first | done | rfl | (simp only [List.length_drop, List.length_take]; rfl)) ?_; (with_reducible refine (code_shortNum.calls (rd l0 x11_1) true _ A5.out).mono ?_); rintro e w' ⟨rfl, ⟨nd, rfl⟩⟩; refine ⟨_, rfl, ?_⟩; have p467 : 0 ≤ ((ji8) : Int) := of_decide_eq_true (by first | (with_reducible assumption) | assumption); have q467 : (ji8) < (l0.length : Int) := of_decide_eq_true (by first | (with_reducible assumption) | assumption); obtain ⟨ad467, e467, hx467_0⟩ := Kd.at_int HR0.out (ji8) p467 q467; obtain rfl : ad465 = ad467 := (by injection e467); replace p467 := eq_true p467; replace q467 := eq_true q467) | (go_at_call 75; (with_reducible refine (cmp_Compare_int.calls (rd l0 (ji8)) (rd l0 x11_1) t468 _ A11.out).mono ?_); rintro e w' ⟨rfl, ⟨nd, rfl⟩⟩))
           go_roundg k1
           case measure => have := HK1.out; omega
           case rel => exact ⟨(wrap64 (x11_1 + 1)), (by first | rfl | (simp; done) | (simp [*]; done) | (simp only [i64_w]; done) | (simp [i64_w, Int.tdiv_eq_ediv_of_nonneg]; done)), H', ⟨by have := HK1.out; omega⟩, by repeat (first | exact Drawn0.refl _ | apply Drawn0.step)⟩
         ·
          rw [if_neg c10] at H
          exact absurd H (by simp)
        ·
         rw [if_neg c9] at H
         exact absurd H (by simp)
       ·
        rw [if_neg c7] at H
        have c7b0 : decide (0 < x11_1) = false := decide_eq_false c7
        clear c7
        have H' := Aside0.mk H
        clear H
        have p465 : 0 ≤ (x11_1 : Int) := of_decide_eq_true (by first | (with_reducible assumption) | assumption)
        have q465 : x11_1 < (l0.length : Int) := of_decide_eq_true (by first | (with_reducible assumption) | assumption)
        obtain ⟨ad465, e465, hx465_0⟩ := Kd.at_int HR0.out x11_1 p465 q465
        cases e465
        replace p465 := eq_true p465
        replace q465 := eq_true q465
        go_wp2_with (first | ((with_reducible refine Go.Proofs.YtbnplhmmbnmagaaX.gate_slot (k := 16) rfl ?_); refine Go.Proofs.YtbnplhmmbnmagaaX.goesS_ (k := 16) (some 18) rfl rfl Try.func76 (by kernel_rfl) rfl rfl #[.int .i64 (rd l0 x11_1)] rfl (by (try simp only [List.map_toArray, List.map_cons, List.map_nil]); first | done | rfl | (simp only [List.length_drop, List.length_take]; rfl)) ?_; (with_reducible refine (code_shortNum.calls (rd l0 x11_1) true _ A5.out).mono ?_); rintro e w' ⟨rfl, ⟨nd, rfl⟩⟩; refine ⟨_, rfl, ?_⟩))
        go_roundg k1
        case measure => have := HK1.out; omega
        case rel => exact ⟨(wrap64 (x11_1 + 1)), (by first | rfl | (simp; done) | (simp [*]; done) | (simp only [i64_w]; done) | (simp [i64_w, Int.tdiv_eq_ediv_of_nonneg]; done)), H', ⟨by have := HK1.out; omega⟩, by repeat (first | exact Drawn0.refl _ | apply Drawn0.step)⟩
      ·
       replace c6 := Bool.eq_false_iff.mpr c6
       subst c6
       have H1 : (some false) = some r := by rw [if_neg (show ¬ (false = true) by decide)] at H; exact H
       clear H
       have H := H1
       clear H1
       obtain rfl := Option.some.inj H
       have p465 : 0 ≤ (x11_1 : Int) := of_decide_eq_true (by first | (with_reducible assumption) | assumption)
       have q465 : x11_1 < (l0.length : Int) := of_decide_eq_true (by first | (with_reducible assumption) | assumption)
       obtain ⟨ad465, e465, hx465_0⟩ := Kd.at_int HR0.out x11_1 p465 q465
       cases e465
       replace p465 := eq_true p465
       replace q465 := eq_true q465
       go_wp2_with (first | ((with_reducible refine Go.Proofs.YtbnplhmmbnmagaaX.gate_slot (k := 16) rfl ?_); refine Go.Proofs.YtbnplhmmbnmagaaX.goesS_ (k := 16) (some 18) rfl rfl Try.func76 (by kernel_rfl) rfl rfl #[.int .i64 (rd l0 x11_1)] rfl (by (try simp only [List.map_toArray, List.map_cons, List.map_nil]); first | done | rfl | (simp only [List.length_drop, List.length_take]; rfl)) ?_; (with_reducible refine (code_shortNum.calls (rd l0 x11_1) false _ A5.out).mono ?_); rintro e w' ⟨rfl, ⟨nd, rfl⟩⟩; refine ⟨_, rfl, ?_⟩))
       go_ret
       exact ⟨by first | rfl | (simp; done) | (simp [*]; done) | (simp only [i64_w]; done) | (simp [i64_w, Int.tdiv_eq_ediv_of_nonneg]; done), by repeat (first | exact Drawn0.refl _ | apply Drawn0.step)⟩
     ·
      rw [if_neg c4] at H
      exact absurd H (by simp)
    ·
     rw [if_neg c3] at H
     exact absurd H (by simp)
   ·
    rw [if_neg c2] at H
    have c2b0 : decide (x11_1 < (l0.length : Int)) = false := decide_eq_false c2
    clear c2
    obtain rfl := Option.some.inj H
    go_wp2
    go_ret
    exact ⟨by first | rfl | (simp; done) | (simp [*]; done) | (simp only [i64_w]; done) | (simp [i64_w, Int.tdiv_eq_ediv_of_nonneg]; done), by repeat (first | exact Drawn0.refl _ | apply Drawn0.step)⟩
def code_formed_2.f (k : Nat) (l0 : List Int) : Option (Bool) := if (l0.length : Int) ≥ 1 then (if (l0.length : Int) ≤ 1000 then ((code_rises_int_74.f k l0).bind fun t469 => (some t469)) else (some false)) else (some false)
set_option maxHeartbeats 8000000 in
set_option maxRecDepth 100000 in
theorem code_formed_2.calls (k : Nat) (A0 : Option Addr) (c0 : Nat) (l0 : List Int) (r : Bool) (w : World) (hr0 : Kd.C (Kd.int .i64) w A0 l0.length l0) (hc0 : l0.length ≤ c0) (h : code_formed_2.f k l0 = some r) :
 Calls Try.prog 73 #[.slice A0 l0.length c0] w fun e w' => e = .returned (.bool r) ∧ Drawn0 w w' := by
 have HR0 := Aside0.mk hr0
 have HC0 := Aside0.mk hc0
 clear hr0 hc0
 have H : (if (l0.length : Int) ≥ 1 then (if (l0.length : Int) ≤ 1000 then ((code_rises_int_74.f k l0).bind fun t469 => (some t469)) else (some false)) else (some false)) = some r := h
 clear h
 by_cases c2 : (l0.length : Int) ≥ 1
 ·
  rw [if_pos c2] at H
  have c2b0 : decide (1 ≤ (l0.length : Int)) = true := decide_eq_true c2
  have c2b1 : decide (1 ≤ l0.length) = true := decide_eq_true (by omega)
  clear c2
  by_cases c3 : (l0.length : Int) ≤ 1000
  ·
   rw [if_pos c3] at H
   have c3b0 : decide ((l0.length : Int) ≤ 1000) = true := decide_eq_true c3
   have c3b1 : decide (l0.length ≤ 1000) = true := decide_eq_true (by omega)
   clear c3
   replace H := Option.bind_eq_some_iff.mp H
   obtain ⟨t469, A40, H⟩ := H
   replace H : (some t469) = some r := H
   have A4 := Aside0.mk A40
   clear A40
   obtain rfl := Option.some.inj H
   go_enter Try.func73, Try.ntmps73
   go_wp2_with (first | (go_at_call 74; (with_reducible refine (code_rises_int_74.calls k _ _ l0 t469 _ ?side1 ?side2 A4.out).mono ?_); (case side1 => repeat (first | exact HR0.out | (with_reducible refine Kd.C_alloc ?_ _) | (with_reducible refine Kd.C_drewN ?_ _) | (with_reducible refine Kd.C_drew ?_))); (case side2 => exact HC0.out); rintro e w' ⟨rfl, ⟨nd, rfl⟩⟩))
   go_ret
   exact ⟨by first | rfl | (simp; done) | (simp [*]; done) | (simp only [i64_w]; done) | (simp [i64_w, Int.tdiv_eq_ediv_of_nonneg]; done), by repeat (first | exact Drawn0.refl _ | apply Drawn0.step)⟩
  ·
   rw [if_neg c3] at H
   have c3b0 : decide ((l0.length : Int) ≤ 1000) = false := decide_eq_false c3
   have c3b1 : decide (l0.length ≤ 1000) = false := decide_eq_false (by omega)
   clear c3
   obtain rfl := Option.some.inj H
   go_enter Try.func73, Try.ntmps73
   go_wp2
   go_ret
   exact ⟨by first | rfl | (simp; done) | (simp [*]; done) | (simp only [i64_w]; done) | (simp [i64_w, Int.tdiv_eq_ediv_of_nonneg]; done), by repeat (first | exact Drawn0.refl _ | apply Drawn0.step)⟩
 ·
  rw [if_neg c2] at H
  have c2b0 : decide (1 ≤ (l0.length : Int)) = false := decide_eq_false c2
  have c2b1 : decide (1 ≤ l0.length) = false := decide_eq_false (by omega)
  clear c2
  obtain rfl := Option.some.inj H
  go_enter Try.func73, Try.ntmps73
  go_wp2
  go_ret
  exact ⟨by first | rfl | (simp; done) | (simp [*]; done) | (simp only [i64_w]; done) | (simp [i64_w, Int.tdiv_eq_ediv_of_nonneg]; done), by repeat (first | exact Drawn0.refl _ | apply Drawn0.step)⟩
def code_rises_string_77.l0 : Nat → List (List ByteArray) → List (List ByteArray) → Int → Int → Option (Bool)
  | 0, _, _, _, _ => none
  | k + 1, x0, x9, x10, x11 => if x11 < x10 then (if 0 ≤ x11 then (if x11 < (x9.length : Int) then ((code_formed_1.f k (rd_L3 x9 x11)).bind fun t471 => (if t471 = true then (if x11 > 0 then (if 0 ≤ (wrap64 (x11 - 1)) then (if (wrap64 (x11 - 1)) < (x0.length : Int) then ((slices_Compare_string_string.f k (rd_L3 x0 (wrap64 (x11 - 1))) (rd_L3 x9 x11)).bind fun t473 => (if t473 ≥ 0 then (some false) else (code_rises_string_77.l0 k x0 x9 x10 (wrap64 (x11 + 1))))) else (none)) else (none)) else (code_rises_string_77.l0 k x0 x9 x10 (wrap64 (x11 + 1)))) else (some false))) else (none)) else (none)) else (some true)
def code_rises_string_77.f (k : Nat) (l0 : List (List ByteArray)) : Option (Bool) := code_rises_string_77.l0 k l0 l0 (l0.length : Int) 0
set_option maxHeartbeats 8000000 in
set_option maxRecDepth 100000 in
theorem code_rises_string_77.calls (k : Nat) (A0 : Option Addr) (c0 : Nat) (l0 : List (List ByteArray)) (r : Bool) (w : World) (hr0 : Kd.C (Kd.slice 9 Kd.string) w A0 l0.length l0) (hc0 : l0.length ≤ c0) (h : code_rises_string_77.f k l0 = some r) :
 Calls Try.prog 77 #[.slice A0 l0.length c0, .func (.func 78) #[] #[], .func (.func 69) #[] #[]] w fun e w' => e = .returned (.bool r) ∧ Drawn0 w w' := by
 have HR0 := Aside0.mk hr0
 have HC0 := Aside0.mk hc0
 clear hr0 hc0
 have H : (code_rises_string_77.l0 k l0 l0 (l0.length : Int) 0) = some r := h
 clear h
 have H' := Aside0.mk H
 clear H
 go_enter Try.func77, Try.ntmps77
 go_wp2
 go_loopg [11] k (fun kq v11 w' => ∃ (x11_1 : Int), v11 = .int .i64 x11_1 ∧ Aside0 (code_rises_string_77.l0 kq l0 l0 (l0.length : Int) x11_1 = some r) ∧ Aside0 (kq ≤ k) ∧ Drawn0 w w')
 case atStart => exact ⟨(0), (by first | rfl | (simp; done) | (simp [*]; done) | (simp only [i64_w]; done) | (simp [i64_w, Int.tdiv_eq_ediv_of_nonneg]; done)), H', ⟨Nat.le_refl _⟩, by repeat (first | exact Drawn0.refl _ | apply Drawn0.step)⟩
 case round =>
  clear H'
  obtain ⟨x11_1, rfl, HA, HK1, ⟨m1, rfl⟩⟩ := hrel
  cases gk with
  | zero => exact absurd HA.out (by simp [code_rises_string_77.l0])
  | succ k1 =>
   have H := HA.out
   clear HA
   simp only [code_rises_string_77.l0] at H
   by_cases c2 : x11_1 < (l0.length : Int)
   ·
    rw [if_pos c2] at H
    have c2b0 : decide (x11_1 < (l0.length : Int)) = true := decide_eq_true c2
    clear c2
    by_cases c3 : 0 ≤ x11_1
    ·
     rw [if_pos c3] at H
     have c3b0 : decide (0 ≤ x11_1) = true := decide_eq_true c3
     clear c3
     by_cases c4 : x11_1 < (l0.length : Int)
     ·
      rw [if_pos c4] at H
      have c4b0 : decide (x11_1 < (l0.length : Int)) = true := decide_eq_true c4
      clear c4
      replace H := Option.bind_eq_some_iff.mp H
      obtain ⟨t471, A50, H⟩ := H
      replace H : (if t471 = true then (if x11_1 > 0 then (if 0 ≤ (wrap64 (x11_1 - 1)) then (if (wrap64 (x11_1 - 1)) < (l0.length : Int) then ((slices_Compare_string_string.f k1 (rd_L3 l0 (wrap64 (x11_1 - 1))) (rd_L3 l0 x11_1)).bind fun t473 => (if t473 ≥ 0 then (some false) else (code_rises_string_77.l0 k1 l0 l0 (l0.length : Int) (wrap64 (x11_1 + 1))))) else (none)) else (none)) else (code_rises_string_77.l0 k1 l0 l0 (l0.length : Int) (wrap64 (x11_1 + 1)))) else (some false)) = some r := H
      have A5 := Aside0.mk A50
      clear A50
      by_cases c6 : t471 = true
      ·
       subst c6
       have H1 : (if x11_1 > 0 then (if 0 ≤ (wrap64 (x11_1 - 1)) then (if (wrap64 (x11_1 - 1)) < (l0.length : Int) then ((slices_Compare_string_string.f k1 (rd_L3 l0 (wrap64 (x11_1 - 1))) (rd_L3 l0 x11_1)).bind fun t473 => (if t473 ≥ 0 then (some false) else (code_rises_string_77.l0 k1 l0 l0 (l0.length : Int) (wrap64 (x11_1 + 1))))) else (none)) else (none)) else (code_rises_string_77.l0 k1 l0 l0 (l0.length : Int) (wrap64 (x11_1 + 1)))) = some r := by rw [if_pos rfl] at H; exact H
       clear H
       have H := H1
       clear H1
       by_cases c7 : x11_1 > 0
       ·
        rw [if_pos c7] at H
        have c7b0 : decide (0 < x11_1) = true := decide_eq_true c7
        clear c7
        obtain ⟨ji8, hji8⟩ : ∃ j_ : Int, (wrap64 (x11_1 - 1)) = j_ := ⟨_, rfl⟩
        replace H : (if 0 ≤ (ji8) then (if (ji8) < (l0.length : Int) then ((slices_Compare_string_string.f k1 (rd_L3 l0 (ji8)) (rd_L3 l0 x11_1)).bind fun t473 => (if t473 ≥ 0 then (some false) else (code_rises_string_77.l0 k1 l0 l0 (l0.length : Int) (wrap64 (x11_1 + 1))))) else (none)) else (none)) = some r := by first | (rw [hji8] at H; exact H) | (simp only [hji8] at H ⊢; exact H)
        (try rw [hji8] at A5)
        have hji8w : (IntKind.i64.wrap (x11_1 - 1)) = ji8 := (i64_w _).trans hji8
        by_cases c9 : 0 ≤ (ji8)
        ·
         rw [if_pos c9] at H
         have c9b0 : decide (0 ≤ (ji8)) = true := decide_eq_true c9
         clear c9
         by_cases c10 : (ji8) < (l0.length : Int)
         ·
          rw [if_pos c10] at H
          have c10b0 : decide ((ji8) < (l0.length : Int)) = true := decide_eq_true c10
          clear c10
          replace H := Option.bind_eq_some_iff.mp H
          obtain ⟨t473, A110, H⟩ := H
          replace H : (if t473 ≥ 0 then (some false) else (code_rises_string_77.l0 k1 l0 l0 (l0.length : Int) (wrap64 (x11_1 + 1)))) = some r := H
          have A11 := Aside0.mk A110
          clear A110
          by_cases c12 : t473 ≥ 0
          ·
           rw [if_pos c12] at H
           have c12b0 : decide (0 ≤ t473) = true := decide_eq_true c12
           clear c12
           obtain rfl := Option.some.inj H
           have p470 : 0 ≤ (x11_1 : Int) := of_decide_eq_true (by first | (with_reducible assumption) | assumption)
           have q470 : x11_1 < (l0.length : Int) := of_decide_eq_true (by first | (with_reducible assumption) | assumption)
           obtain ⟨ad470, A470_0, c470_0, e470, hx470_0, hl470_0, hi470_0⟩ := at_L3 HR0.out x11_1 p470 q470
           cases e470
           have HR470_0 := Aside0.mk hi470_0
           have HC470_0 := Aside0.mk hl470_0
           clear hi470_0 hl470_0
           replace p470 := eq_true p470
           replace q470 := eq_true q470
           go_wp2_with (first | ((with_reducible refine Go.Proofs.YtbnplhmmbnmagaaX.gate_slot (k := 16) rfl ?_); refine Go.Proofs.YtbnplhmmbnmagaaX.goesS_ (k := 16) (some 18) rfl rfl Try.func69 (by kernel_rfl) rfl rfl #[.slice A470_0 (rd_L3 l0 x11_1).length c470_0] rfl (by (try simp only [List.map_toArray, List.map_cons, List.map_nil]); first | done | rfl | (simp only [List.length_drop, List.length_take]; rfl)) ?_; (with_reducible refine (code_formed_1.calls k1 _ _ (rd_L3 l0 x11_1) true _ ?side1 ?side2 A5.out).mono ?_); (case side1 => repeat (first | exact HR470_0.out | (with_reducible refine Kd.C_alloc ?_ _) | (with_reducible refine Kd.C_drewN ?_ _) | (with_reducible refine Kd.C_drew ?_))); (case side2 => exact HC470_0.out); rintro e w' ⟨rfl, ⟨nd, rfl⟩⟩; refine ⟨_, rfl, ?_⟩; have p472 : 0 ≤ ((ji8) : Int) := of_decide_eq_true (by first | (with_reducible assumption) | assumption); have q472 : (ji8) < (l0.length : Int) := of_decide_eq_true (by first | (with_reducible assumption) | assumption); obtain ⟨ad472, A472_0, c472_0, e472, hx472_0, hl472_0, hi472_0⟩ := at_L3 HR0.out (ji8) p472 q472; obtain rfl : ad470 = ad472 := (by injection e472); have HR472_0 := Aside0.mk hi472_0; have HC472_0 := Aside0.mk hl472_0; clear hi472_0 hl472_0; replace p472 := eq_true p472; replace q472 := eq_true q472) | (go_at_call 78; (with_reducible refine (slices_Compare_string_string.calls k1 _ _ (rd_L3 l0 (ji8)) _ _ (rd_L3 l0 x11_1) t473 _ ?side1 ?side2 ?side3 ?side4 A11.out).mono ?_); (case side1 => repeat (first | exact HR472_0.out | (with_reducible refine Kd.C_alloc ?_ _) | (with_reducible refine Kd.C_drewN ?_ _) | (with_reducible refine Kd.C_drew ?_))); (case side2 => exact HC472_0.out); (case side3 => repeat (first | exact HR470_0.out | (with_reducible refine Kd.C_alloc ?_ _) | (with_reducible refine Kd.C_drewN ?_ _) | (with_reducible refine Kd.C_drew ?_))); (case side4 => exact HC470_0.out); rintro e w' ⟨rfl, ⟨nd, rfl⟩⟩))
           go_ret
           exact ⟨by first | rfl | (simp; done) | (simp only [← hji8] <;> (first | rfl | simp)) | (simp [*]; done) | (simp only [i64_w]; done) | (simp [i64_w, Int.tdiv_eq_ediv_of_nonneg]; done), by repeat (first | exact Drawn0.refl _ | apply Drawn0.step)⟩
          ·
           rw [if_neg c12] at H
           have c12b0 : decide (0 ≤ t473) = false := decide_eq_false c12
           clear c12
           have H' := Aside0.mk H
           clear H
           have p470 : 0 ≤ (x11_1 : Int) := of_decide_eq_true (by first | (with_reducible assumption) | assumption)
           have q470 : x11_1 < (l0.length : Int) := of_decide_eq_true (by first | (with_reducible assumption) | assumption)
           obtain ⟨ad470, A470_0, c470_0, e470, hx470_0, hl470_0, hi470_0⟩ := at_L3 HR0.out x11_1 p470 q470
           cases e470
           have HR470_0 := Aside0.mk hi470_0
           have HC470_0 := Aside0.mk hl470_0
           clear hi470_0 hl470_0
           replace p470 := eq_true p470
           replace q470 := eq_true q470
           go_wp2_with (first | ((with_reducible refine Go.Proofs.YtbnplhmmbnmagaaX.gate_slot (k := 16) rfl ?_); refine Go.Proofs.YtbnplhmmbnmagaaX.goesS_ (k := 16) (some 18) rfl rfl Try.func69 (by kernel_rfl) rfl rfl #[.slice A470_0 (rd_L3 l0 x11_1).length c470_0] rfl (by (try simp only [List.map_toArray, List.map_cons, List.map_nil]); first | done | rfl | (simp only [List.length_drop, List.length_take]; rfl)) ?_; (with_reducible refine (code_formed_1.calls k1 _ _ (rd_L3 l0 x11_1) true _ ?side1 ?side2 A5.out).mono ?_); (case side1 => repeat (first | exact HR470_0.out | (with_reducible refine Kd.C_alloc ?_ _) | (with_reducible refine Kd.C_drewN ?_ _) | (with_reducible refine Kd.C_drew ?_))); (case side2 => exact HC470_0.out); rintro e w' ⟨rfl, ⟨nd, rfl⟩⟩; refine ⟨_, rfl, ?_⟩; have p472 : 0 ≤ ((ji8) : Int) := of_decide_eq_true (by first | (with_reducible assumption) | assumption); have q472 : (ji8) < (l0.length : Int) := of_decide_eq_true (by first | (with_reducible assumption) | assumption); obtain ⟨ad472, A472_0, c472_0, e472, hx472_0, hl472_0, hi472_0⟩ := at_L3 HR0.out (ji8) p472 q472; obtain rfl : ad470 = ad472 := (by injection e472); have HR472_0 := Aside0.mk hi472_0; have HC472_0 := Aside0.mk hl472_0; clear hi472_0 hl472_0; replace p472 := eq_true p472; replace q472 := eq_true q472) | (go_at_call 78; (with_reducible refine (slices_Compare_string_string.calls k1 _ _ (rd_L3 l0 (ji8)) _ _ (rd_L3 l0 x11_1) t473 _ ?side1 ?side2 ?side3 ?side4 A11.out).mono ?_); (case side1 => repeat (first | exact HR472_0.out | (with_reducible refine Kd.C_alloc ?_ _) | (with_reducible refine Kd.C_drewN ?_ _) | (with_reducible refine Kd.C_drew ?_))); (case side2 => exact HC472_0.out); (case side3 => repeat (first | exact HR470_0.out | (with_reducible refine Kd.C_alloc ?_ _) | (with_reducible refine Kd.C_drewN ?_ _) | (with_reducible refine Kd.C_drew ?_))); (case side4 => exact HC470_0.out); rintro e w' ⟨rfl, ⟨nd, rfl⟩⟩))
           go_roundg k1
           case measure => have := HK1.out; omega
           case rel => exact ⟨(wrap64 (x11_1 + 1)), (by first | rfl | (simp; done) | (simp [*]; done) | (simp only [i64_w]; done) | (simp [i64_w, Int.tdiv_eq_ediv_of_nonneg]; done)), H', ⟨by have := HK1.out; omega⟩, by repeat (first | exact Drawn0.refl _ | apply Drawn0.step)⟩
         ·
          rw [if_neg c10] at H
          exact absurd H (by simp)
        ·
         rw [if_neg c9] at H
         exact absurd H (by simp)
       ·
        rw [if_neg c7] at H
        have c7b0 : decide (0 < x11_1) = false := decide_eq_false c7
        clear c7
        have H' := Aside0.mk H
        clear H
        have p470 : 0 ≤ (x11_1 : Int) := of_decide_eq_true (by first | (with_reducible assumption) | assumption)
        have q470 : x11_1 < (l0.length : Int) := of_decide_eq_true (by first | (with_reducible assumption) | assumption)
        obtain ⟨ad470, A470_0, c470_0, e470, hx470_0, hl470_0, hi470_0⟩ := at_L3 HR0.out x11_1 p470 q470
        cases e470
        have HR470_0 := Aside0.mk hi470_0
        have HC470_0 := Aside0.mk hl470_0
        clear hi470_0 hl470_0
        replace p470 := eq_true p470
        replace q470 := eq_true q470
        go_wp2_with (first | ((with_reducible refine Go.Proofs.YtbnplhmmbnmagaaX.gate_slot (k := 16) rfl ?_); refine Go.Proofs.YtbnplhmmbnmagaaX.goesS_ (k := 16) (some 18) rfl rfl Try.func69 (by kernel_rfl) rfl rfl #[.slice A470_0 (rd_L3 l0 x11_1).length c470_0] rfl (by (try simp only [List.map_toArray, List.map_cons, List.map_nil]); first | done | rfl | (simp only [List.length_drop, List.length_take]; rfl)) ?_; (with_reducible refine (code_formed_1.calls k1 _ _ (rd_L3 l0 x11_1) true _ ?side1 ?side2 A5.out).mono ?_); (case side1 => repeat (first | exact HR470_0.out | (with_reducible refine Kd.C_alloc ?_ _) | (with_reducible refine Kd.C_drewN ?_ _) | (with_reducible refine Kd.C_drew ?_))); (case side2 => exact HC470_0.out); rintro e w' ⟨rfl, ⟨nd, rfl⟩⟩; refine ⟨_, rfl, ?_⟩))
        go_roundg k1
        case measure => have := HK1.out; omega
        case rel => exact ⟨(wrap64 (x11_1 + 1)), (by first | rfl | (simp; done) | (simp [*]; done) | (simp only [i64_w]; done) | (simp [i64_w, Int.tdiv_eq_ediv_of_nonneg]; done)), H', ⟨by have := HK1.out; omega⟩, by repeat (first | exact Drawn0.refl _ | apply Drawn0.step)⟩
      ·
       replace c6 := Bool.eq_false_iff.mpr c6
       subst c6
       have H1 : (some false) = some r := by rw [if_neg (show ¬ (false = true) by decide)] at H; exact H
       clear H
       have H := H1
       clear H1
       obtain rfl := Option.some.inj H
       have p470 : 0 ≤ (x11_1 : Int) := of_decide_eq_true (by first | (with_reducible assumption) | assumption)
       have q470 : x11_1 < (l0.length : Int) := of_decide_eq_true (by first | (with_reducible assumption) | assumption)
       obtain ⟨ad470, A470_0, c470_0, e470, hx470_0, hl470_0, hi470_0⟩ := at_L3 HR0.out x11_1 p470 q470
       cases e470
       have HR470_0 := Aside0.mk hi470_0
       have HC470_0 := Aside0.mk hl470_0
       clear hi470_0 hl470_0
       replace p470 := eq_true p470
       replace q470 := eq_true q470
       go_wp2_with (first | ((with_reducible refine Go.Proofs.YtbnplhmmbnmagaaX.gate_slot (k := 16) rfl ?_); refine Go.Proofs.YtbnplhmmbnmagaaX.goesS_ (k := 16) (some 18) rfl rfl Try.func69 (by kernel_rfl) rfl rfl #[.slice A470_0 (rd_L3 l0 x11_1).length c470_0] rfl (by (try simp only [List.map_toArray, List.map_cons, List.map_nil]); first | done | rfl | (simp only [List.length_drop, List.length_take]; rfl)) ?_; (with_reducible refine (code_formed_1.calls k1 _ _ (rd_L3 l0 x11_1) false _ ?side1 ?side2 A5.out).mono ?_); (case side1 => repeat (first | exact HR470_0.out | (with_reducible refine Kd.C_alloc ?_ _) | (with_reducible refine Kd.C_drewN ?_ _) | (with_reducible refine Kd.C_drew ?_))); (case side2 => exact HC470_0.out); rintro e w' ⟨rfl, ⟨nd, rfl⟩⟩; refine ⟨_, rfl, ?_⟩))
       go_ret
       exact ⟨by first | rfl | (simp; done) | (simp [*]; done) | (simp only [i64_w]; done) | (simp [i64_w, Int.tdiv_eq_ediv_of_nonneg]; done), by repeat (first | exact Drawn0.refl _ | apply Drawn0.step)⟩
     ·
      rw [if_neg c4] at H
      exact absurd H (by simp)
    ·
     rw [if_neg c3] at H
     exact absurd H (by simp)
   ·
    rw [if_neg c2] at H
    have c2b0 : decide (x11_1 < (l0.length : Int)) = false := decide_eq_false c2
    clear c2
    obtain rfl := Option.some.inj H
    go_wp2
    go_ret
    exact ⟨by first | rfl | (simp; done) | (simp [*]; done) | (simp only [i64_w]; done) | (simp [i64_w, Int.tdiv_eq_ediv_of_nonneg]; done), by repeat (first | exact Drawn0.refl _ | apply Drawn0.step)⟩
end Go.Proofs.Ytbnplhmmbnmagaa.All
