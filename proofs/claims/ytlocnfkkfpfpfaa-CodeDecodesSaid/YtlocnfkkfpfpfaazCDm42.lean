/- fixed: its walk. -/
import Derived.Test.YtlocnfkkfpfpfaazCDm29
namespace Go.Proofs.Ytlocnfkkfpfpfaa.D
open Go.RowKit Go.Proofs.YtlocnfkkfpfpfaaW.PrintWords Go.Proofs.YtlocnfkkfpfpfaaW.PrintLast Go.Proofs.YtlocnfkkfpfpfaaW.PrintMore Go.Proofs.Ytlocnfkkfpfpfaa.Six
set_option linter.unusedSimpArgs false
set_option linter.unusedVariables false
def g2 : Pg := ⟨[⟨#[97]⟩], [-1, 3], [], [], [⟨2, 0, 0, 0⟩, ⟨36, 0, 0, 0⟩], 1, 0⟩
def b2 : List Int := [66, 82, 84, 1, 1, 0, 1, 1, 97, 2, 1, 6, 0, 0, 2, 2, 0, 36]
set_option maxRecDepth 100000 in
theorem g2_formed : formedB g2 = true := by decide
set_option maxRecDepth 100000 in
theorem g2_enc : encP g2 = b2 := by decide
theorem b2_dec : programF b2 = .ok (g2, (b2.length : Int)) := by rw [← g2_enc]; exact program_rt g2 g2_formed
theorem b2_bytes : Bytes b2 := by rw [← g2_enc]; exact encP_bytes g2
theorem b2_good : Good b2 := by rw [← g2_enc]; exact encP_good g2 g2_formed
set_option maxHeartbeats 4000000 in
set_option maxRecDepth 100000 in
theorem fixed_any (w : World) : Calls Try.prog 10 #[] w fun e w' => e = .returned (.bool true) ∧ Below w.heap.size w w' := by
 have HP := berthlaw20_second.calls _ _ _ _ _ _ _ _ w rfl
 go_enter Try.func10, Try.ntmps10
 go_wp2_with (fail)
 refine HP.mono ?_
 rintro e W1 ⟨v0, v1, v2, v3, v4, v7, rfl, hT, hN, hS, hM, hC, hB, bel⟩
 obtain ⟨A0, c0, rfl, k0, r0⟩ := Kd.R_reads hT
 obtain ⟨A1, c1, rfl, k1, r1⟩ := Kd.R_reads hN
 obtain ⟨A2, c2, rfl, k2, r2⟩ := Kd.S_reads hS
 obtain ⟨A3, c3, rfl, k3, r3⟩ := Kd.S_reads hM
 obtain ⟨A4, c4, rfl, k4, r4⟩ := Kd.R_reads hC
 obtain ⟨A5, c5, rfl, k5, r5⟩ := Kd.R_reads hB
 have hI : InPg W1 A0 A1 A2 A3 A4 c0 c1 c2 c3 c4 g2 := ⟨r0, r1, r2, r3, r4, k0, k1, k2, k3, k4⟩
 clear hT hN hS hM hC hB r0 r1 r2 r3 r4 k0 k1 k2 k3 k4 HP
 go_wp2_with (fail)
 have hx := heap_alloc_new W1 (.cells #[.slice A0 1 c0, .slice A1 2 c1, .slice A2 0 c2, .slice A3 0 c3, .slice A4 2 c4, .int .i64 1, .int .i64 0] 32 (0, 0))
 have bel2 := below_alloc bel (.cells #[.slice A0 1 c0, .slice A1 2 c1, .slice A2 0 c2, .slice A3 0 c3, .slice A4 2 c4, .int .i64 1, .int .i64 0] 32 (0, 0))
 have bel3 := below_alloc (Below.refl W1.heap.size W1) (.cells #[.slice A0 1 c0, .slice A1 2 c1, .slice A2 0 c2, .slice A3 0 c3, .slice A4 2 c4, .int .i64 1, .int .i64 0] 32 (0, 0))
 have hI2 := hI.below bel3
 have hC2 : Kd.C (Kd.int .u8) _ A5 b2.length b2 := Kd.C_below r5 bel3
 have k52 : b2.length ≤ c5 := k5
 clear hI r5 bel k5 bel3
 generalize W1.heap.size = X at hx ⊢
 generalize (W1.alloc (.cells #[.slice A0 1 c0, .slice A1 2 c1, .slice A2 0 c2, .slice A3 0 c3, .slice A4 2 c4, .int .i64 1, .int .i64 0] 32 (0, 0))) = W2 at hx bel2 hI2 hC2 ⊢
 refine (show Calls _ _ _ _ _ from encode_any W2 A0 A1 A2 A3 A4 c0 c1 c2 c3 c4 g2 hI2 (formed_fits _ g2_formed)).mono ?_
 rintro e W3 ⟨he, bel3⟩
 rw [if_pos g2_formed] at he
 obtain ⟨v, rfl, hr⟩ := he
 rw [g2_enc] at hr
 obtain ⟨A6, c6, rfl, k6, r6⟩ := Kd.R_reads hr
 have hx3 := (bel3.block _ (blk_lt hx)).trans hx
 have hI3 := hI2.below bel3
 have hC3 := Kd.C_below hC2 bel3
 have belw := bel2.trans (bel3.mono (by have := bel2.size; omega))
 clear hx hI2 hC2 bel2 bel3 hr
 go_wp2_with (fail)
 refine (show Calls _ _ _ _ _ from decode_any W3 A5 c5 b2 hC3 k52 b2_good).mono ?_
 intro e W4 hd
 unfold IsDec at hd
 rw [b2_dec] at hd
 obtain ⟨v, rfl, hp, bel4⟩ := hd
 obtain ⟨B0, B1, B2, B3, B4, e0, e1, e2, e3, e4, rfl, hJ⟩ := hp.read
 have hx4 := (bel4.block _ (blk_lt hx3)).trans hx3
 have hI4 := hI3.below bel4
 have hC4 := Kd.C_below hC3 bel4
 have r64 := Kd.C_below r6 bel4
 have belw4 := belw.trans (bel4.mono (by have := belw.size; omega))
 clear hx3 hI3 hC3 belw bel4 hp r6
 unfold valPg
 go_wp2_with (fail)
 have hy := heap_alloc_new W4 (.cells #[.slice B0 g2.T.length e0, .slice B1 g2.N.length e1, .slice B2 g2.S.length e2, .slice B3 g2.M.length e3, .slice B4 g2.C.length e4, .int .i64 g2.dep, .int .i64 g2.loc] 32 (0, 0))
 have bel5 := below_alloc (Below.refl W4.heap.size W4) (.cells #[.slice B0 g2.T.length e0, .slice B1 g2.N.length e1, .slice B2 g2.S.length e2, .slice B3 g2.M.length e3, .slice B4 g2.C.length e4, .int .i64 g2.dep, .int .i64 g2.loc] 32 (0, 0))
 have hx5 := (bel5.block _ (blk_lt hx4)).trans hx4
 have hI5 := hI4.below bel5
 have hJ5 := hJ.below bel5
 have hC5 := Kd.C_below hC4 bel5
 have r65 := Kd.C_below r64 bel5
 have belw5 := belw4.trans (bel5.mono (by have := belw4.size; omega))
 clear hx4 hI4 hJ hC4 r64 belw4 bel5
 generalize W4.heap.size = Y at hy ⊢
 generalize (W4.alloc (.cells #[.slice B0 g2.T.length e0, .slice B1 g2.N.length e1, .slice B2 g2.S.length e2, .slice B3 g2.M.length e3, .slice B4 g2.C.length e4, .int .i64 g2.dep, .int .i64 g2.loc] 32 (0, 0))) = W5 at hy hx5 hI5 hJ5 hC5 r65 belw5 ⊢
 refine (show Calls _ _ _ _ _ from sameBytes_any W5 A6 A5 c6 c5 b2 b2 r65 k6 hC5 k52 b2_bytes b2_bytes).mono ?_
 rintro e W6 ⟨⟨r, rfl, hr⟩, bel6⟩
 obtain rfl := hr.2 rfl
 have hx6 := (bel6.block _ (blk_lt hx5)).trans hx5
 have hy6 := (bel6.block _ (blk_lt hy)).trans hy
 have hI6 := hI5.below bel6
 have hJ6 := hJ5.below bel6
 have belw6 := belw5.trans (bel6.mono (by have := belw5.size; omega))
 clear hx5 hy hI5 hJ5 hC5 r65 belw5 bel6 hr
 obtain ⟨p0, p1, p2, p3, p4, p5, p6⟩ := boxed hx6
 obtain ⟨q0, q1, q2, q3, q4, q5, q6⟩ := boxed hy6
 go_wp2_with (fail)
 refine (show Calls _ _ _ _ _ from same_any W6 B0 B1 B2 B3 B4 e0 e1 e2 e3 e4 g2 A0 A1 A2 A3 A4 c0 c1 c2 c3 c4 g2 hI6 hJ6 (formed_fits _ g2_formed) (formed_fits _ g2_formed)).mono ?_
 rintro e W7 ⟨⟨r, rfl, hr⟩, bel7⟩
 obtain rfl := hr.2 rfl
 have belw7 := belw6.trans (bel7.mono (by have := belw6.size; omega))
 clear p0 p1 p2 p3 p4 p5 p6 q0 q1 q2 q3 q4 q5 q6 hx6 hy6 hI6 hJ6 bel7 hr belw6
 go_wp2_with (fail)
 go_ret
 exact ⟨rfl, belw7⟩
end Go.Proofs.Ytlocnfkkfpfpfaa.D
