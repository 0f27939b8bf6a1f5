/- The reference's Decode: its walk. -/
import Derived.Test.YtlocnfkkfpfpfaazCDm41
import Derived.Test.YtlocnfkkfpfpfaazCDm44
namespace Go.Proofs.Ytlocnfkkfpfpfaa.D
open Go.RowKit Go.Proofs.YtlocnfkkfpfpfaaW.PrintWords Go.Proofs.YtlocnfkkfpfpfaaW.PrintLast Go.Proofs.YtlocnfkkfpfpfaaW.PrintMore Go.Proofs.Ytlocnfkkfpfpfaa.Six
set_option linter.unusedSimpArgs false
set_option linter.unusedVariables false
set_option linter.unusedSectionVars false
def IsRef (w : World) (bs : List Int) (e : Ending) (w' : World) : Prop :=
  ∃ (g : Pg) (v : Value) (kf bf : Int), e = .returned (.tuple #[v, .int .i64 kf, .int .i64 bf]) ∧ Below w.heap.size w w' ∧ IsPg w.heap.size g v w' ∧
    (match programF bs with | .ok (h, _) => kf = 0 ∧ g = h | .error (k, q) => kf = k ∧ bf = q ∧ g = g0)
theorem Far.code {p k b : Int} {bs : List Int} {n j : Nat} {F : Except (Int × Int) (List S74 × Int)} {acc : List S74} {p2 k2 b2 : Int} (h : Far p k b bs n j F (codeL bs) acc p2 k2 b2) (he : ¬ (j < n ∧ k2 = 0)) : Stk p k b F acc p2 k2 b2 := by
 refine ⟨fun hk => ?_, fun hk => ?_⟩
 ·
  by_cases hk2 : k2 = 0
  ·
   obtain ⟨_, _, _, e, hL⟩ := h.good hk2
   have hj : j = n := by
    have := h.le
    by_cases hjn : j < n
    ·
     exact absurd ⟨hjn, hk2⟩ he
    ·
     omega
   rw [hj, Nat.sub_self] at hL
   rw [← hL]
   exact ⟨rfl, rfl, hk2, e⟩
  ·
   rcases h.bad hk2 with ⟨_, e⟩ | ⟨e, _⟩
   ·
    rw [e]; exact ⟨rfl, rfl⟩
   ·
    exact absurd hk e
 ·
  by_cases hk2 : k2 = 0
  ·
   exact absurd (h.good hk2).1 hk
  ·
   rcases h.bad hk2 with ⟨e, _⟩ | ⟨_, e⟩
   ·
    exact absurd e hk
   ·
    exact e
theorem Far.codeNext {p k b : Int} {bs : List Int} {n j : Nat} {F : Except (Int × Int) (List S74 × Int)} {acc : List S74} {p2 b2 p3 k3 b3 : Int} {x : S74} (h : Far p k b bs n j F (codeL bs) acc p2 0 b2) (hj : j < n) (hs : Stk p2 0 b2 (instrF bs p2) x p3 k3 b3) : Far p k b bs n (j + 1) F (codeL bs) (acc ++ [x]) p3 k3 b3 := by
 obtain ⟨h1, h2, h3, h4, h5⟩ := h.good rfl
 rw [show n - j = (n - (j + 1)) + 1 by omega] at h5
 unfold codeL at h5
 have h6 := hs.1 rfl
 have ht := instrF_tame bs p2 h2 h3
 refine ⟨by omega, by rw [List.length_append, h.len]; rfl, fun hk => ?_, fun hk => .inl ⟨h1, ?_⟩⟩
 ·
  cases hi : instrF bs p2 with
  | error f =>
   obtain ⟨kk, q⟩ := f
   rw [hi] at h6
   have := ht.1 _ _ hi
   have := h6.1
   omega
  | ok y =>
   obtain ⟨y, q⟩ := y
   rw [hi] at h6 h5
   obtain ⟨rfl, rfl, _, rfl⟩ := h6
   have := ht.2 _ _ hi
   exact ⟨h1, by omega, by omega, h4, h5⟩
 ·
  cases hi : instrF bs p2 with
  | error f =>
   obtain ⟨kk, q⟩ := f
   rw [hi] at h6 h5
   obtain ⟨rfl, rfl⟩ := h6
   exact h5.symm
  | ok y =>
   obtain ⟨y, q⟩ := y
   rw [hi] at h6
   exact absurd h6.2.2.1 hk
set_option maxHeartbeats 8000000 in
set_option maxRecDepth 100000 in
theorem refDecode_any (w : World) (A : Option Addr) (c : Nat) (bs : List Int) (hC : Kd.C (Kd.int .u8) w A bs.length bs) (hc : bs.length ≤ c) (G : Good bs) :
 Calls Try.prog 16 #[.slice A bs.length c] w (IsRef w bs) := by
 have hb := G.byte
 have hlen := G.len
 go_enter Try.func16, Try.ntmps16
 go_wp2_with (fail)
 generalize hW1 : ((w.alloc (.cells #[.slice none 0 0, .slice none 0 0, .slice none 0 0, .slice none 0 0, .slice none 0 0, .int .i64 0, .int .i64 0] 32)).alloc (.cells #[.slice A bs.length c, .int .i64 0, .int .i64 0, .int .i64 0] 85)) = W1
 have hz1 : W1.heap[w.heap.size]? = some (.cells #[.slice none 0 0, .slice none 0 0, .slice none 0 0, .slice none 0 0, .slice none 0 0, .int .i64 0, .int .i64 0] 32 (0, 0)) := by
  rw [← hW1, heap_alloc_old _ _ (by simp)]; exact heap_alloc_new w _
 have hg1 : W1.heap[w.heap.size + 1]? = some (.cells #[.slice A bs.length c, .int .i64 0, .int .i64 0, .int .i64 0] 85 (0, 0)) := by
  rw [← hW1]
  have := heap_alloc_new (w.alloc (.cells #[.slice none 0 0, .slice none 0 0, .slice none 0 0, .slice none 0 0, .slice none 0 0, .int .i64 0, .int .i64 0] 32)) (.cells #[.slice A bs.length c, .int .i64 0, .int .i64 0, .int .i64 0] 85)
  simpa using this
 have hB1 : Below w.heap.size w W1 := by rw [← hW1]; exact below_alloc (below_alloc (Below.refl _ _) _) _
 have hI1 : IsS85 w W1 (w.heap.size + 1) bs 0 0 0 := ⟨A, c, hg1, by omega, hC, hc⟩
 clear hW1 hg1
 refine (rHead bs hb hlen w W1 (w.heap.size + 1) 0 hI1 hB1).mono ?_
 rintro e W2 ⟨rfl, p0, k0, b0, hI2, hB2, hK2, h0⟩
 have hz2 := (hK2.2 _ (blk_lt hz1) (by omega) (by simp)).trans hz1
 have hgl := hI2.lt
 have g0_ : k0 = 0 → 0 ≤ p0 ∧ p0 ≤ bs.length := fun hk => by
  cases hh : headL bs 4 0 with
  | none =>
   rw [hh] at h0
   have := headL_len bs 4 0 hh (by decide)
   omega
  | some f =>
   obtain ⟨kk, q⟩ := f
   rw [hh] at h0
   have := headL_tame bs 4 0 _ _ hh
   have := h0.1
   dsimp only at this
   omega
 have hS : StD w (W2.alloc (.cells #[.slice none 0 0, .slice none 0 0, .slice none 0 0, .slice none 0 0, .slice none 0 0, .int .i64 0, .int .i64 0] 32 (0, 0))) (w.heap.size + 1) W2.heap.size bs p0 k0 b0 (.slice none 0 0) (.slice none 0 0) (.slice none 0 0) (.slice none 0 0) (.slice none 0 0) ⟨[], [], [], [], [], 0, 0⟩ :=
  ⟨hI2.alloc _, below_alloc hB2 _, (heap_alloc_old _ _ (blk_lt hz2)).trans hz2, heap_alloc_new _ _, hgl, by omega, Kd.R_nil _ _ _ _ _, Kd.R_nil _ _ _ _ _, Kd.R_nil _ _ _ _ _, Kd.R_nil _ _ _ _ _, Kd.R_nil _ _ _ _ _⟩
 clear hI1 hB1 hz1 hI2 hB2 hK2 hz2 hgl
 have H0 := hid_ h0; clear h0
 go_upto_region 4 with (fail)
 generalize (W2.alloc (.cells #[.slice none 0 0, .slice none 0 0, .slice none 0 0, .slice none 0 0, .slice none 0 0, .int .i64 0, .int .i64 0] 32 (0, 0))) = W3 at hS ⊢
 generalize W2.heap.size = X at hS ⊢
 generalize w.heap.size + 1 = g at hS ⊢
 clear W1 W2
 go_wp2_with (fail)
 refine (rCountZ bs hb hlen w W3 g p0 k0 b0 hS.rd hS.below g0_ 0 128).mono ?_
 rintro e W4 ⟨dep, p1, k1, b1, rfl, hI, hB, hK, s1, _⟩
 have g1_ := (Stk.place (countF_tame bs 0 128) s1 g0_).1
 have hS4 := hS.call hI hB hK
 clear hS hI hB hK
 obtain ⟨f0, f1, f2, f3, f4, f5, f6, fz⟩ := boxedF hS4.x
 go_upto_region 5 with (fail)
 have hS := hS4.put5 dep
 clear hS4 f0 f1 f2 f3 f4 f5 f6 fz
 dsimp only at hS
 generalize (W4.setCell ⟨X, 5, none⟩ (.int .i64 dep)) = W5 at hS ⊢
 clear W3 W4
 go_wp2_with (fail)
 refine (rCountZ bs hb hlen w W5 g p1 k1 b1 hS.rd hS.below g1_ 0 1024).mono ?_
 rintro e W6 ⟨loc, p2, k2, b2, rfl, hI, hB, hK, s2, _⟩
 have g2_ := (Stk.place (countF_tame bs 0 1024) s2 g1_).1
 have hS4 := hS.call hI hB hK
 clear hS hI hB hK
 obtain ⟨f0, f1, f2, f3, f4, f5, f6, fz⟩ := boxedF hS4.x
 go_upto_region 6 with (fail)
 have hS := hS4.put6 loc
 clear hS4 f0 f1 f2 f3 f4 f5 f6 fz
 dsimp only at hS
 generalize (W6.setCell ⟨X, 6, none⟩ (.int .i64 loc)) = W7 at hS ⊢
 clear W5 W6
 go_wp2_with (fail)
 refine (rCountZ bs hb hlen w W7 g p2 k2 b2 hS.rd hS.below g2_ 0 4096).mono ?_
 rintro e W8 ⟨x3, p3, k3, b3, rfl, hI, hB, hK, s3, z3⟩
 have g3_ := (Stk.place (countF_tame bs 0 4096) s3 g2_).1
 have hS4 := hS.call hI hB hK
 clear hS hI hB hK
 have hx3 : 0 ≤ x3 ∧ x3 ≤ 4096 := by
  by_cases hk3 : k3 = 0
  ·
   obtain ⟨_, _, _, z1, z2, _⟩ := s3.got g2_ hk3
   omega
  ·
   rw [z3 hk3]; omega
 obtain ⟨n3, rfl⟩ := Int.eq_ofNat_of_zero_le hx3.1
 go_wp2_with (fail)
 refine (rTextsN bs hb hlen w W8 g p3 k3 b3 hS4.rd hS4.below g3_ n3 (by omega)).mono ?_
 rintro e W9 ⟨v4, T, p4, k4, b4, rfl, ⟨hv4, hT⟩, hI, hB, hK, s4⟩
 have g4_ := (Stk.place (listL_tame _ cmpS (textF_tame bs) n3 []) s4 g3_).1
 have hm4 := hS4.mine hv4
 have hS := hS4.call hI hB hK
 clear hS4 hI hB hK hv4
 obtain ⟨AT, cT, rfl⟩ := Kd.R_slice hm4
 obtain ⟨f0, f1, f2, f3, f4, f5, f6, fz⟩ := boxedF hS.x
 go_upto_region 7 with (fail)
 have hS4 := hS.put0 hm4
 clear hS hm4 f0 f1 f2 f3 f4 f5 f6 fz
 dsimp only at hS4
 generalize (W9.setCell ⟨X, 0, none⟩ (.slice AT T.length cT)) = W10 at hS4 ⊢
 clear W7 W8 W9
 obtain ⟨f0, f1, f2, f3, f4, f5, f6, fz⟩ := boxedF hS4.x
 have eT : wrap64 (4096 - (T.length : Int)) = 4096 - T.length := wrap_ _ (by omega) (by omega)
 go_wp2_with (fail)
 refine (rCountZ bs hb hlen w W10 g p4 k4 b4 hS4.rd hS4.below g4_ 0 (4096 - (T.length : Int))).mono ?_
 rintro e W11 ⟨x5, p5, k5, b5, rfl, hI, hB, hK, s5, z5⟩
 have g5_ := (Stk.place (countF_tame bs 0 (4096 - (T.length : Int))) s5 g4_).1
 have hS := hS4.call hI hB hK
 clear hS4 hI hB hK f0 f1 f2 f3 f4 f5 f6 fz eT
 have hx5 : 0 ≤ x5 ∧ x5 ≤ 4096 ∧ (k5 = 0 → x5 ≤ 4096 - T.length) := by
  by_cases hk5 : k5 = 0
  ·
   obtain ⟨_, _, _, z1, z2, _⟩ := s5.got g4_ hk5
   omega
  ·
   rw [z5 hk5]; omega
 obtain ⟨n5, rfl⟩ := Int.eq_ofNat_of_zero_le hx5.1
 go_wp2_with (fail)
 refine (rNumsN bs hb hlen w W11 g p5 k5 b5 hS.rd hS.below g5_ n5 (by omega)).mono ?_
 rintro e W12 ⟨v6, N, p6, k6, b6, rfl, ⟨hv6, hN⟩, hI, hB, hK, s6⟩
 have g6_ := (Stk.place (listL_tame _ cmpI (numF_tame bs) n5 []) s6 g5_).1
 have hm6 := hS.mine hv6
 have hS4 := hS.call hI hB hK
 clear hS hI hB hK hv6
 obtain ⟨AN, cN, rfl⟩ := Kd.R_slice hm6
 obtain ⟨f0, f1, f2, f3, f4, f5, f6, fz⟩ := boxedF hS4.x
 go_upto_region 8 with (fail)
 have hS := hS4.put1 hm6
 clear hS4 hm6 f0 f1 f2 f3 f4 f5 f6 fz
 dsimp only at hS
 generalize (W12.setCell ⟨X, 1, none⟩ (.slice AN N.length cN)) = W13 at hS ⊢
 clear W10 W11 W12
 have hTN : k6 = 0 → T.length + N.length ≤ 4096 := fun hk => by
  have h5 : k5 = 0 := by
   by_cases h : k5 = 0
   ·
    exact h
   ·
    have := (s6.2 h).2.1
    omega
  have := hx5.2.2 h5
  omega
 go_wp2_with (fail)
 refine (rSets bs hb hlen w W13 g X p6 k6 b6 hS.rd hS.below g6_ (blk_lt hS.x) (by have := hS.gX; omega) (by have := hS.gX; have := hS.zg; omega) AT AN cT cN T.length N.length (.slice none 0 0) (.int .i64 dep) (.int .i64 loc) ⟨by omega, by omega⟩ hTN hS.x).mono ?_
 rintro e W14 ⟨rfl, vS, vM, S, M, p7, k7, b7, hQ, s7⟩
 have g7_ := (Stk.place (setsF_tame bs T.length N.length) s7 g6_).1
 have hS4 := hS.sets hQ rfl rfl
 clear hS hQ
 dsimp only at hS4
 go_wp2_with (fail)
 refine (rCountZ bs hb hlen w W14 g p7 k7 b7 hS4.rd hS4.below g7_ 0 32768).mono ?_
 rintro e W15 ⟨x8, p8, k8, b8, rfl, hI, hB, hK, s8, z8⟩
 have g8_ := (Stk.place (countF_tame bs 0 32768) s8 g7_).1
 have hS := hS4.call hI hB hK
 clear hS4 hI hB hK
 have hx8 : 0 ≤ x8 ∧ x8 ≤ 32768 := by
  by_cases hk8 : k8 = 0
  ·
   obtain ⟨_, _, _, z1, z2, _⟩ := s8.got g7_ hk8
   omega
  ·
   rw [z8 hk8]; omega
 obtain ⟨n8, rfl⟩ := Int.eq_ofNat_of_zero_le hx8.1
 clear W13 W14
 have E8 : Hid (∀ p9 k9 b9 kf bf C, Stk p8 k8 b8 (codeL bs n8 p8 []) C p9 k9 b9 → (k9 = 0 → p9 < bs.length → kf = 206 ∧ bf = p9) → (k9 = 0 → ¬ p9 < bs.length → kf = 0) → (k9 ≠ 0 → kf = k9 ∧ bf = b9) → Ends (programF bs) kf bf ⟨T, N, S, M, C, dep, loc⟩) :=
  hid_ (fun _ _ _ _ _ _ s9 h1 h2 h3 => ref_ends bs H0.out g0_ s1 s2 s3 s4 s5 s6 s7 s8 s9 h1 h2 h3)
 obtain ⟨AS, cS, rfl⟩ := Kd.R_slice hS.rS
 obtain ⟨AM, cM, rfl⟩ := Kd.R_slice hS.rM
 dsimp only at hS
 generalize hF : codeL bs n8 p8 [] = F at E8
 have hfar0 : Far p8 k8 b8 bs n8 0 F (codeL bs) [] p8 k8 b8 := ⟨Nat.zero_le _, rfl, fun hk => ⟨hk, (g8_ hk).1, (g8_ hk).2, rfl, hF⟩, fun hk => .inr ⟨hk, rfl, rfl, rfl⟩⟩
 clear H0 g0_ s1 s2 s3 s4 s5 s6 s7 s8 g1_ g2_ g3_ g4_ g5_ g6_ g7_ g8_ z3 z5 z8 hF hTN hT hN hx3 hx5
 have hn8 := hx8.2
 clear hx8
 go_wp2_with (fail)
 go_loopw [8] (fun i wr => ∃ (j : Nat) (acc : List S74) (vC : Value) (p2 k2 b2 : Int), i = .int .i64 j ∧ Far p8 k8 b8 bs n8 j F (codeL bs) acc p2 k2 b2 ∧ StD w wr g X bs p2 k2 b2 (.slice AT T.length cT) (.slice AN N.length cN) (.slice AS S.length cS) (.slice AM M.length cM) vC ⟨T, N, S, M, acc, dep, loc⟩) (fun i _ => n8 - (intOf i).toNat)
 case atStart => exact ⟨0, [], _, p8, k8, b8, rfl, hfar0, hS⟩
 case round =>
  clear hS hfar0
  obtain ⟨j, acc, vC, p9, k9, b9, rfl, hfar, hS⟩ := hrel
  obtain ⟨A9, c9, q0, q1, q2, q3, z, hc9, hC9⟩ := s85_cells hS.rd
  by_cases hgo : j < n8 ∧ k9 = 0
  ·
   obtain ⟨hjn, rfl⟩ := hgo
   have d0 : ((j : Int) < (n8 : Int)) := by omega
   obtain ⟨_, hp0, hp1, _, _⟩ := hfar.good rfl
   have HT := rInstr bs hb hlen w wr g p9 0 b9 hS.rd hS.below (fun _ => ⟨hp0, hp1⟩)
   go_wp2_with (fail)
   refine HT.mono ?_
   rintro e w3 ⟨v, x, p3, k3, b3, rfl, rfl, hI3, hB3, hK3, hs3⟩
   have hS3 := (hS.call hI3 hB3 hK3).alloc (.cells #[.int .i64 x.f0, .int .i64 x.f1, .int .i64 x.f2, .int .i64 x.f3] 74 (0, 0))
   have hy := heap_alloc_new w3 (.cells #[.int .i64 x.f0, .int .i64 x.f1, .int .i64 x.f2, .int .i64 x.f3] 74 (0, 0))
   have hfar2 := hfar.codeNext hjn hs3
   have hl5 : (acc.length + 1) * 32 ≤ 140737488355328 := by have := hfar.len; omega
   clear hS HT hI3 hB3 hK3 hs3 q0 q1 q2 q3 z hc9 hC9 hfar hp0 hp1
   go_upto_region 14 with (fail)
   generalize (w3.alloc (.cells #[.int .i64 x.f0, .int .i64 x.f1, .int .i64 x.f2, .int .i64 x.f3] 74 (0, 0))) = W4 at hS3 hy ⊢
   generalize w3.heap.size = Y at hy ⊢
   obtain ⟨AC, cC, rfl⟩ := Kd.R_slice hS3.rC
   obtain ⟨f0, f1, f2, f3, f4, f5, f6, fz⟩ := boxedF hS3.x
   have y0 : W4.cell? ⟨Y, 0, none⟩ = some (.int .i64 x.f0) := by simp [World.cell?, hy]
   have y1 : W4.cell? ⟨Y, 1, none⟩ = some (.int .i64 x.f1) := by simp [World.cell?, hy]
   have y2 : W4.cell? ⟨Y, 2, none⟩ = some (.int .i64 x.f2) := by simp [World.cell?, hy]
   have y3 : W4.cell? ⟨Y, 3, none⟩ = some (.int .i64 x.f3) := by simp [World.cell?, hy]
   clear hy
   dsimp only at f4
   go_wp2_with (((with_reducible refine gate_builtin (b := .append) (xs := #[.tmp 55, .tmp 57]) rfl ?_); at_builtin; refine Kd.R_append k74 (w0 := W4) w.heap.size (by rfl) (.tmp 55) (.tmp 57) 30 74 (.agg #[.int .i64 0, .int .i64 0, .int .i64 0, .int .i64 0]) 32 rfl Try.underlying30 info74 rfl (by decide) (by omega) (.slice AC acc.length cC) acc x [.int .i64 x.f0, .int .i64 x.f1, .int .i64 x.f2, .int .i64 x.f3] (fun k => X < k) (fun _ => False) rfl rfl (k74_mkM _ _ _ x) (fun _ hk => hk.elim) (fun k hk => by have := blk_lt hS3.x; omega) hS3.rC (Below.refl _ _) hS3.below.size hl5 ?_; intro v2 w9 hrow hb9 hg _; obtain ⟨A2, c2, rfl⟩ := Kd.R_slice hrow; have hx9 := (hg.block X (blk_lt hS3.x) (fun e => by have := hS3.rC.1 X e.symm; omega)).trans hS3.x; have z4 : w9.frozen? ⟨X, 4, none⟩ = false := (by simp [World.frozen?, hx9]); have k4 : w9.cell? ⟨X, 4, none⟩ = some (.slice AC acc.length cC) := (by simp [World.cell?, hx9]); clear hx9))
   have hS9 := hS3.grown hg hrow
   dsimp only at hS9
   rw [show (acc ++ [x]).length = acc.length + 1 by simp] at hS9
   clear hS3 hg hrow f0 f1 f2 f3 f4 f5 f6 fz y0 y1 y2 y3
   go_roundw
   case rel => exact ⟨j + 1, _, _, p3, k3, b3, by go_num, hfar2, hS9⟩
   case measure => simp [intOf]; omega
  ·
   have hst := hfar.code hgo
   have E9 := fun kf bf => E8.out p9 k9 b9 kf bf acc hst
   clear E8 hst
   by_cases hjn : (j : Int) < (n8 : Int)
   ·
    have hk9 : ¬ k9 = 0 := fun e => hgo ⟨by omega, e⟩
    have hk2 : (k9 == 0) = false := by rw [beq_eq_false_iff_ne]; exact hk9
    clear hgo hfar
    go_upto_region 15 with (fail)
    clear q0 q1 q2 q3 z hc9 hC9
    have HE := hid_ (E9 k9 b9 (fun h => absurd h hk9) (fun h => absurd h hk9) (fun _ => ⟨rfl, rfl⟩))
    clear E9
    have hz := hS.z
    have hbz := hS.below
    have hgz : g ≠ w.heap.size := by have := hS.zg; omega
    obtain ⟨r0, r1, r2, r3, r4, r5, r6, rz⟩ := boxedF hz
    obtain ⟨A9, c9, q0, q1, q2, q3, z, hc9, hC9⟩ := s85_cells hS.rd
    clear hc9 hC9 hS
    go_wp2_with (fail)
    have t2 := zz_cellD wr w.heap.size g 2 _ hgz q2
    have t3 := zz_cellD wr w.heap.size g 3 _ hgz q3
    go_region
    have hZ := zz_blk wr w.heap.size hz
    have hBZ := zz_below w wr hbz
    clear t2 t3 r0 r1 r2 r3 r4 r5 r6 rz q0 q1 q2 q3 z hz hbz
    generalize (((((((wr.setCell ⟨w.heap.size, 0, none⟩ (.slice none 0 0)).setCell ⟨w.heap.size, 1, none⟩ (.slice none 0 0)).setCell ⟨w.heap.size, 2, none⟩ (.slice none 0 0)).setCell ⟨w.heap.size, 3, none⟩ (.slice none 0 0)).setCell ⟨w.heap.size, 4, none⟩ (.slice none 0 0)).setCell ⟨w.heap.size, 5, none⟩ (.int .i64 0)).setCell ⟨w.heap.size, 6, none⟩ (.int .i64 0)) = V at hZ hBZ ⊢
    go_wp2_with (fail)
    refine bodyPost_ret (results16 _ V.drew w.heap.size #[.slice none 0 0, .slice none 0 0, .slice none 0 0, .slice none 0 0, .slice none 0 0, .int .i64 0, .int .i64 0] (.int .i64 (k9)) (.int .i64 (b9)) (by kernel_rfl) (by kernel_rfl) (by kernel_rfl) hZ (by kernel_rfl)) (by kernel_rfl) ?_
    exact ⟨g0, _, _, _, rfl, hBZ.drew, ⟨_, _, _, _, _, rfl, Kd.R_nil _ _ _ _ _, Kd.R_nil _ _ _ _ _, Kd.R_nil _ _ _ _ _, Kd.R_nil _ _ _ _ _, Kd.R_nil _ _ _ _ _⟩, ends_bad HE.out hk9⟩
   ·
    clear hgo hfar
    go_upto_region 15 with (fail)
    by_cases hk9 : k9 = 0
    ·
     subst hk9
     by_cases hp9 : p9 < (bs.length : Int)
     ·
      have HFl := rFail bs w wr g p9 0 b9 206 p9 hS.rd hS.below
      go_wp2_with (fail)
      refine HFl.mono ?_
      rintro e w5 ⟨rfl, hI5, hB5, hK5⟩
      rw [if_pos trivial] at hI5
      have hS5 := hS.call hI5 hB5 hK5
      clear q0 q1 q2 q3 z hc9 hC9 HFl hS hI5 hB5 hK5
      have HE := hid_ (E9 206 p9 (fun _ _ => ⟨rfl, rfl⟩) (fun _ h => absurd hp9 (by omega)) (fun h => absurd rfl h))
      clear E9
      have hz := hS5.z
      have hbz := hS5.below
      have hgz : g ≠ w.heap.size := by have := hS5.zg; omega
      obtain ⟨r0, r1, r2, r3, r4, r5, r6, rz⟩ := boxedF hz
      obtain ⟨A9, c9, q0, q1, q2, q3, z, hc9, hC9⟩ := s85_cells hS5.rd
      clear hc9 hC9 hS5
      go_wp2_with (fail)
      have t2 := zz_cellD w5 w.heap.size g 2 _ hgz q2
      have t3 := zz_cellD w5 w.heap.size g 3 _ hgz q3
      go_region
      have hZ := zz_blk w5 w.heap.size hz
      have hBZ := zz_below w w5 hbz
      clear t2 t3 r0 r1 r2 r3 r4 r5 r6 rz q0 q1 q2 q3 z hz hbz
      generalize (((((((w5.setCell ⟨w.heap.size, 0, none⟩ (.slice none 0 0)).setCell ⟨w.heap.size, 1, none⟩ (.slice none 0 0)).setCell ⟨w.heap.size, 2, none⟩ (.slice none 0 0)).setCell ⟨w.heap.size, 3, none⟩ (.slice none 0 0)).setCell ⟨w.heap.size, 4, none⟩ (.slice none 0 0)).setCell ⟨w.heap.size, 5, none⟩ (.int .i64 0)).setCell ⟨w.heap.size, 6, none⟩ (.int .i64 0)) = V at hZ hBZ ⊢
      go_wp2_with (fail)
      refine bodyPost_ret (results16 _ V.drew w.heap.size #[.slice none 0 0, .slice none 0 0, .slice none 0 0, .slice none 0 0, .slice none 0 0, .int .i64 0, .int .i64 0] (.int .i64 (206)) (.int .i64 (p9)) (by kernel_rfl) (by kernel_rfl) (by kernel_rfl) hZ (by kernel_rfl)) (by kernel_rfl) ?_
      exact ⟨g0, _, _, _, rfl, hBZ.drew, ⟨_, _, _, _, _, rfl, Kd.R_nil _ _ _ _ _, Kd.R_nil _ _ _ _ _, Kd.R_nil _ _ _ _ _, Kd.R_nil _ _ _ _ _, Kd.R_nil _ _ _ _ _⟩, ends_bad HE.out (by decide)⟩
     ·
      have HE := hid_ (E9 0 0 (fun _ h => absurd h hp9) (fun _ _ => rfl) (fun h => absurd rfl h))
      clear E9
      obtain ⟨AC, cC, rfl⟩ := Kd.R_slice hS.rC
      obtain ⟨f0, f1, f2, f3, f4, f5, f6, fz⟩ := boxedF hS.x
      obtain ⟨r0, r1, r2, r3, r4, r5, r6, rz⟩ := boxedF hS.z
      dsimp only at f4
      go_wp2_with (fail)
      obtain ⟨d1, d2, d3⟩ := hS.done
      dsimp only at d1 d2 d3
      clear hS f0 f1 f2 f3 f4 f5 f6 fz r0 r1 r2 r3 r4 r5 r6 rz q0 q1 q2 q3 z
      change bodyPost _ _ _ _ _ (setZ wr w.heap.size (.slice AT T.length cT) (.slice AN N.length cN) (.slice AS S.length cS) (.slice AM M.length cM) (.slice AC acc.length cC) (.int .i64 dep) (.int .i64 loc))
      generalize setZ wr w.heap.size (.slice AT T.length cT) (.slice AN N.length cN) (.slice AS S.length cS) (.slice AM M.length cM) (.slice AC acc.length cC) (.int .i64 dep) (.int .i64 loc) = V at d1 d2 d3 ⊢
      refine bodyPost_ret (results16 _ V w.heap.size #[.slice AT T.length cT, .slice AN N.length cN, .slice AS S.length cS, .slice AM M.length cM, .slice AC acc.length cC, .int .i64 dep, .int .i64 loc] (.int .i64 0) (.int .i64 0) (by kernel_rfl) (by kernel_rfl) (by kernel_rfl) d2 (by kernel_rfl)) (by kernel_rfl) ?_
      exact ⟨_, _, _, _, rfl, d1, d3, ends_good HE.out⟩
    ·
     have hk2 : (k9 == 0) = false := by rw [beq_eq_false_iff_ne]; exact hk9
     clear q0 q1 q2 q3 z hc9 hC9
     have HE := hid_ (E9 k9 b9 (fun h => absurd h hk9) (fun h => absurd h hk9) (fun _ => ⟨rfl, rfl⟩))
     clear E9
     have hz := hS.z
     have hbz := hS.below
     have hgz : g ≠ w.heap.size := by have := hS.zg; omega
     obtain ⟨r0, r1, r2, r3, r4, r5, r6, rz⟩ := boxedF hz
     obtain ⟨A9, c9, q0, q1, q2, q3, z, hc9, hC9⟩ := s85_cells hS.rd
     clear hc9 hC9 hS
     go_wp2_with (fail)
     have t2 := zz_cellD wr w.heap.size g 2 _ hgz q2
     have t3 := zz_cellD wr w.heap.size g 3 _ hgz q3
     go_region
     have hZ := zz_blk wr w.heap.size hz
     have hBZ := zz_below w wr hbz
     clear t2 t3 r0 r1 r2 r3 r4 r5 r6 rz q0 q1 q2 q3 z hz hbz
     generalize (((((((wr.setCell ⟨w.heap.size, 0, none⟩ (.slice none 0 0)).setCell ⟨w.heap.size, 1, none⟩ (.slice none 0 0)).setCell ⟨w.heap.size, 2, none⟩ (.slice none 0 0)).setCell ⟨w.heap.size, 3, none⟩ (.slice none 0 0)).setCell ⟨w.heap.size, 4, none⟩ (.slice none 0 0)).setCell ⟨w.heap.size, 5, none⟩ (.int .i64 0)).setCell ⟨w.heap.size, 6, none⟩ (.int .i64 0)) = V at hZ hBZ ⊢
     go_wp2_with (fail)
     refine bodyPost_ret (results16 _ V.drew w.heap.size #[.slice none 0 0, .slice none 0 0, .slice none 0 0, .slice none 0 0, .slice none 0 0, .int .i64 0, .int .i64 0] (.int .i64 (k9)) (.int .i64 (b9)) (by kernel_rfl) (by kernel_rfl) (by kernel_rfl) hZ (by kernel_rfl)) (by kernel_rfl) ?_
     exact ⟨g0, _, _, _, rfl, hBZ.drew, ⟨_, _, _, _, _, rfl, Kd.R_nil _ _ _ _ _, Kd.R_nil _ _ _ _ _, Kd.R_nil _ _ _ _ _, Kd.R_nil _ _ _ _ _, Kd.R_nil _ _ _ _ _⟩, ends_bad HE.out hk9⟩
end Go.Proofs.Ytlocnfkkfpfpfaa.D
