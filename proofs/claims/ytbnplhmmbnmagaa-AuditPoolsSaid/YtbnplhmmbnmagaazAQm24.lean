/- wakes. -/
import Derived.Test.YtbnplhmmbnmagaazAQm15
import Derived.Test.YtbnplhmmbnmagaazAQm23
import Derived.Test.YtbnplhmmbnmagaazAQm21
import Derived.DeepKeys
import Derived.Test.YtbnplhmmbnmagaazAQm19
import Derived.Test.YtbnplhmmbnmagaazAQm6
namespace Go.Proofs.Ytbnplhmmbnmagaa.D
open Go.RowKit Go.Proofs.YtbnplhmmbnmagaaW.PrintWords Go.Proofs.YtbnplhmmbnmagaaW.PrintLast Go.Proofs.YtbnplhmmbnmagaaW.PrintMore Go.Proofs.Ytbnplhmmbnmagaa.All
set_option linter.unusedSimpArgs false
set_option linter.unusedVariables false
def goodP : Pg := ⟨[], [], [], [], goodC, 1, 0⟩
def goodB : List Int := [66, 82, 84, 1, 1, 0, 0, 0, 0, 0, 2, 2, 0, 36]
theorem goodP_formed : formedB goodP = true := by decide
theorem goodP_enc : encP goodP = goodB := by decide
theorem goodB_dec : programF goodB = .ok (goodP, (goodB.length : Int)) := by rw [← goodP_enc]; exact program_rt goodP goodP_formed
theorem goodB_good : Good goodB := by rw [← goodP_enc]; exact encP_good goodP goodP_formed
theorem good_bytes : bytesF goodB = .ok (goodP, 1) := bytesF_ok goodB_dec (by unfold auditP; exact good_audit)
theorem C66_2 (W : World) (g t : Nat) (x y : S66) (h : W.heap[g]? = some (.cells #[.int .i64 x.f0, .int .i64 x.f1, .int .i64 x.f2, .int .i64 x.f3, .int .i64 y.f0, .int .i64 y.f1, .int .i64 y.f2, .int .i64 y.f3] t (0, 0))) : Kd.C k66 W (some ⟨g, 0, none⟩) 2 [x, y] := by
 refine ⟨rfl, by decide, fun _ => ⟨⟨g, 0, none⟩, rfl, fun j p hj => ?_⟩⟩
 rcases j with _ | _ | j
 ·
  obtain rfl : x = p := by simpa using hj
  refine ⟨_, rfl, k66_mk _ _, fun i u hu => ?_⟩
  rcases i with _ | _ | _ | _ | i <;> simp_all [World.cell?, Addr.add, k66, Kd.iso, Kd.pair, Kd.int, Kd.scalar]
 ·
  obtain rfl : y = p := by simpa using hj
  refine ⟨_, rfl, k66_mk _ _, fun i u hu => ?_⟩
  rcases i with _ | _ | _ | _ | i <;> simp_all [World.cell?, Addr.add, k66, Kd.iso, Kd.pair, Kd.int, Kd.scalar]
 ·
  simp at hj
theorem C66_4 (W : World) (g t : Nat) (x y z u : S66) (h : W.heap[g]? = some (.cells #[.int .i64 x.f0, .int .i64 x.f1, .int .i64 x.f2, .int .i64 x.f3, .int .i64 y.f0, .int .i64 y.f1, .int .i64 y.f2, .int .i64 y.f3, .int .i64 z.f0, .int .i64 z.f1, .int .i64 z.f2, .int .i64 z.f3, .int .i64 u.f0, .int .i64 u.f1, .int .i64 u.f2, .int .i64 u.f3] t (0, 0))) : Kd.C k66 W (some ⟨g, 0, none⟩) 4 [x, y, z, u] := by
 refine ⟨rfl, by decide, fun _ => ⟨⟨g, 0, none⟩, rfl, fun j p hj => ?_⟩⟩
 rcases j with _ | _ | _ | _ | j
 ·
  obtain rfl : x = p := by simpa using hj
  refine ⟨_, rfl, k66_mk _ _, fun i u hu => ?_⟩
  rcases i with _ | _ | _ | _ | i <;> simp_all [World.cell?, Addr.add, k66, Kd.iso, Kd.pair, Kd.int, Kd.scalar]
 ·
  obtain rfl : y = p := by simpa using hj
  refine ⟨_, rfl, k66_mk _ _, fun i u hu => ?_⟩
  rcases i with _ | _ | _ | _ | i <;> simp_all [World.cell?, Addr.add, k66, Kd.iso, Kd.pair, Kd.int, Kd.scalar]
 ·
  obtain rfl : z = p := by simpa using hj
  refine ⟨_, rfl, k66_mk _ _, fun i u hu => ?_⟩
  rcases i with _ | _ | _ | _ | i <;> simp_all [World.cell?, Addr.add, k66, Kd.iso, Kd.pair, Kd.int, Kd.scalar]
 ·
  obtain rfl : u = p := by simpa using hj
  refine ⟨_, rfl, k66_mk _ _, fun i u hu => ?_⟩
  rcases i with _ | _ | _ | _ | i <;> simp_all [World.cell?, Addr.add, k66, Kd.iso, Kd.pair, Kd.int, Kd.scalar]
 ·
  simp at hj
abbrev lnk0 : Value := .agg #[.int .i64 0, .int .i64 0, .int .i64 0, .string ⟨#[]⟩, .int .i64 0, .int .i64 0, .int .i64 0, .string ⟨#[]⟩, .int .i64 0, .int .i64 0, .int .i64 0, .string ⟨#[]⟩, .int .i64 0, .int .i64 0, .int .i64 0, .string ⟨#[]⟩]
set_option maxRecDepth 100000 in
theorem eq39 (w : World) : (Op.equalIn 9999 39 lnk0 lnk0).run Try.prog w = .ok true w := by
  have h := run_equalIn_deep (P := Try.prog) 9995 4 39 (by kernel_rfl)
  obtain ⟨r, hr, hi⟩ := h w 10 10 lnk0 lnk0 [.int .i64 0, .int .i64 0, .int .i64 0, .string [], .int .i64 0, .int .i64 0, .int .i64 0, .string [], .int .i64 0, .int .i64 0, .int .i64 0, .string [], .int .i64 0, .int .i64 0, .int .i64 0, .string []] _ (by kernel_rfl) (by kernel_rfl) (by kernel_rfl) (by kernel_rfl)
  rw [hi.2 rfl] at hr
  exact hr
theorem cells7 {W : World} {X t : Nat} {a b c d e f g : Value} (h : W.heap[X]? = some (.cells #[a, b, c, d, e, f, g] t (0, 0))) : W.cell? ⟨X, 0, none⟩ = some a ∧ W.cell? ⟨X, 1, none⟩ = some b ∧ W.cell? ⟨X, 2, none⟩ = some c ∧ W.cell? ⟨X, 3, none⟩ = some d ∧ W.cell? ⟨X, 4, none⟩ = some e ∧ W.cell? ⟨X, 5, none⟩ = some f ∧ W.cell? ⟨X, 6, none⟩ = some g := by
  simp [World.cell?, h]
theorem cells2 {W : World} {X t : Nat} {a b : Value} (h : W.heap[X]? = some (.cells #[a, b] t (0, 0))) : W.cell? ⟨X, 0, none⟩ = some a ∧ W.cell? ⟨X, 1, none⟩ = some b := by
  simp [World.cell?, h]
theorem C_ints {k : IntKind} {W : World} {g t : Nat} {xs : List Int} (h : W.heap[g]? = some (.cells (xs.map (Value.int k)).toArray t (0, 0))) (hl : xs.length ≤ 9223372036854775807) : Kd.C (Kd.int k) W (some ⟨g, 0, none⟩) xs.length xs := by
 refine ⟨rfl, hl, fun _ => ⟨⟨g, 0, none⟩, rfl, fun j p hj => ⟨[.int k p], rfl, rfl, fun i u hu => ?_⟩⟩⟩
 rcases i with _ | i
 ·
  have hu' : Value.int k p = u := by simpa using hu
  subst hu'
  have hz : (Kd.int k).sz = 1 := rfl
  have ha : ((⟨g, 0, none⟩ : Addr).add (j * (Kd.int k).sz + 0)) = ⟨g, j, none⟩ := by rw [hz]; unfold Addr.add; split <;> simp_all
  rw [ha]
  simp [World.cell?, h, hj]
 ·
  simp at hu
theorem told_get {w : World} {base : Nat} {ok : Nat → Prop} {tv : Value} (h : told2.R 51 w base ok tv [[], [1]]) :
    ∃ ad c A0 c0 a1 c1, tv = .slice (some ad) 2 c ∧ w.cell? ad = some (.slice A0 0 c0) ∧ w.cell? ⟨ad.block, ad.off + 1, none⟩ = some (.slice (some a1) 1 c1) ∧ w.cell? a1 = some (.int .i64 1) ∧ 2 ≤ c ∧ 1 ≤ c1 := by
  obtain ⟨A, c, rfl, hc, hC⟩ := Kd.R_reads h
  obtain ⟨ad, cs, rfl, -, ⟨A0, c0, rfl, -, -⟩, h0⟩ := Kd.C_get hC [] 0 (by decide) (by decide)
  obtain ⟨ad2, cs, he, -, ⟨A1, c1, rfl, l1, hC1⟩, h1⟩ := Kd.C_get hC [] 1 (by decide) (by decide)
  injection he with he
  subst he
  obtain ⟨a1, cs, rfl, -, hk, h2⟩ := Kd.C_get hC1 0 0 (by decide) (by decide)
  obtain rfl : cs = [.int .i64 1] := hk
  have u0 := h0 0 _ rfl
  have u2 := h2 0 _ rfl
  rw [show (0 : Int).toNat * told2.sz + 0 = 0 from rfl] at u0
  rw [show (0 : Int).toNat * (Kd.int .i64).sz + 0 = 0 from rfl] at u2
  simp only [go_sem] at u0 u2
  exact ⟨ad, c, A0, c0, a1, c1, rfl, u0, h1 0 _ rfl, u2, hc, l1⟩
set_option maxHeartbeats 4000000 in
set_option maxRecDepth 100000 in
theorem wakes_any (w : World) : Calls Try.prog 10 #[] w fun e w' => e = .returned (.bool true) ∧ Below w.heap.size w w' := by
 go_enter Try.func10, Try.ntmps10
 go_upto_region 2 with (fail)
 have c1 : Kd.C k66 ((w.alloc (.cells #[.int .i64 2, .int .i64 0, .int .i64 0, .int .i64 0, .int .i64 36, .int .i64 0, .int .i64 0, .int .i64 0] 66)).alloc (.cells #[.slice none 0 0, .slice none 0 0, .slice none 0 0, .slice none 0 0, .slice (some ⟨w.heap.size, 0, none⟩) 2 2, .int .i64 1, .int .i64 0] 28)) (some ⟨w.heap.size, 0, none⟩) 2 goodC :=
  C66_2 _ _ 66 ⟨2, 0, 0, 0⟩ ⟨36, 0, 0, 0⟩ (by rw [heap_alloc_old _ _ (by simp)]; exact heap_alloc_new w _)
 have p1 := heap_alloc_new (w.alloc (.cells #[.int .i64 2, .int .i64 0, .int .i64 0, .int .i64 0, .int .i64 36, .int .i64 0, .int .i64 0, .int .i64 0] 66)) (.cells #[.slice none 0 0, .slice none 0 0, .slice none 0 0, .slice none 0 0, .slice (some ⟨w.heap.size, 0, none⟩) 2 2, .int .i64 1, .int .i64 0] 28)
 rw [World.size_alloc] at p1
 have hb : Below w.heap.size w ((w.alloc (.cells #[.int .i64 2, .int .i64 0, .int .i64 0, .int .i64 0, .int .i64 36, .int .i64 0, .int .i64 0, .int .i64 0] 66)).alloc (.cells #[.slice none 0 0, .slice none 0 0, .slice none 0 0, .slice none 0 0, .slice (some ⟨w.heap.size, 0, none⟩) 2 2, .int .i64 1, .int .i64 0] 28)) := below_alloc (below_alloc (Below.refl _ _) _) _
 have HB := hid_ hb
 clear hb
 generalize (w.alloc (.cells #[.int .i64 2, .int .i64 0, .int .i64 0, .int .i64 0, .int .i64 36, .int .i64 0, .int .i64 0, .int .i64 0] 66)).alloc (.cells #[.slice none 0 0, .slice none 0 0, .slice none 0 0, .slice none 0 0, .slice (some ⟨w.heap.size, 0, none⟩) 2 2, .int .i64 1, .int .i64 0] 28) = W1 at c1 p1 HB ⊢
 generalize w.heap.size + 1 = X1 at p1 ⊢
 generalize (⟨w.heap.size, 0, none⟩ : Addr) = A1 at c1 p1 ⊢
 go_upto_region 3 with (fail)
 have bel := below_alloc (below_alloc (Below.refl W1.heap.size W1) (.cells #[.int .i64 2, .int .i64 0, .int .i64 0, .int .i64 0, .int .i64 33, .int .i64 3, .int .i64 0, .int .i64 0, .int .i64 2, .int .i64 0, .int .i64 0, .int .i64 0, .int .i64 36, .int .i64 0, .int .i64 0, .int .i64 0] 66)) (.cells #[.slice none 0 0, .slice none 0 0, .slice none 0 0, .slice none 0 0, .slice (some ⟨W1.heap.size, 0, none⟩) 4 4, .int .i64 2, .int .i64 0] 28)
 have c2 : Kd.C k66 ((W1.alloc (.cells #[.int .i64 2, .int .i64 0, .int .i64 0, .int .i64 0, .int .i64 33, .int .i64 3, .int .i64 0, .int .i64 0, .int .i64 2, .int .i64 0, .int .i64 0, .int .i64 0, .int .i64 36, .int .i64 0, .int .i64 0, .int .i64 0] 66)).alloc (.cells #[.slice none 0 0, .slice none 0 0, .slice none 0 0, .slice none 0 0, .slice (some ⟨W1.heap.size, 0, none⟩) 4 4, .int .i64 2, .int .i64 0] 28)) (some ⟨W1.heap.size, 0, none⟩) 4 badC :=
  C66_4 _ _ 66 ⟨2, 0, 0, 0⟩ ⟨33, 3, 0, 0⟩ ⟨2, 0, 0, 0⟩ ⟨36, 0, 0, 0⟩ (by rw [heap_alloc_old _ _ (by simp)]; exact heap_alloc_new W1 _)
 have p2 := heap_alloc_new (W1.alloc (.cells #[.int .i64 2, .int .i64 0, .int .i64 0, .int .i64 0, .int .i64 33, .int .i64 3, .int .i64 0, .int .i64 0, .int .i64 2, .int .i64 0, .int .i64 0, .int .i64 0, .int .i64 36, .int .i64 0, .int .i64 0, .int .i64 0] 66)) (.cells #[.slice none 0 0, .slice none 0 0, .slice none 0 0, .slice none 0 0, .slice (some ⟨W1.heap.size, 0, none⟩) 4 4, .int .i64 2, .int .i64 0] 28)
 rw [World.size_alloc] at p2
 have q1 := (bel.block _ (blk_lt p1)).trans p1
 have d1 := Kd.C_below c1 bel
 have HB2 := hid_ (HB.out.trans (bel.mono HB.out.size))
 clear c1 p1 HB bel
 generalize (W1.alloc (.cells #[.int .i64 2, .int .i64 0, .int .i64 0, .int .i64 0, .int .i64 33, .int .i64 3, .int .i64 0, .int .i64 0, .int .i64 2, .int .i64 0, .int .i64 0, .int .i64 0, .int .i64 36, .int .i64 0, .int .i64 0, .int .i64 0] 66)).alloc (.cells #[.slice none 0 0, .slice none 0 0, .slice none 0 0, .slice none 0 0, .slice (some ⟨W1.heap.size, 0, none⟩) 4 4, .int .i64 2, .int .i64 0] 28) = W2 at c2 p2 q1 d1 HB2 ⊢
 generalize W1.heap.size + 1 = X2 at p2 ⊢
 generalize (⟨W1.heap.size, 0, none⟩ : Addr) = A2 at c2 p2 ⊢
 obtain ⟨x0, x1, x2, x3, x4, x5, x6⟩ := cells7 q1
 go_wp2_with (fail)
 clear x0 x1 x2 x3 x4 x5 x6
 refine (show Calls _ _ _ _ _ from prog_any W2 none none none none (some A1) 0 0 0 0 2 0 0 0 0 goodC 1 0 d1 (by decide) (by decide) (by decide) (by decide) (by decide) (by decide)).mono ?_
 intro e W3 he
 rw [good_audit] at he
 change ProgEnd W2 2 _ e W3 at he
 obtain ⟨rfl, bel⟩ := he
 have q1' := (bel.block _ (blk_lt q1)).trans q1
 have q2 := (bel.block _ (blk_lt p2)).trans p2
 have d1' := Kd.C_below d1 bel
 have d2 := Kd.C_below c2 bel
 have HB3 := hid_ (HB2.out.trans (bel.mono HB2.out.size))
 clear c2 p2 q1 d1 HB2 bel
 go_upto_region 4 with (fail)
 have bel := below_alloc (Below.refl W3.heap.size W3) (.cells #[.int .i64 1, .int .i64 2] 31)
 have s3 := heap_alloc_new W3 (.cells #[.int .i64 1, .int .i64 2] 31)
 have q1 := (bel.block _ (blk_lt q1')).trans q1'
 have p2 := (bel.block _ (blk_lt q2)).trans q2
 have d1 := Kd.C_below d1' bel
 have c2 := Kd.C_below d2 bel
 have HB4 := hid_ (HB3.out.trans (bel.mono HB3.out.size))
 clear q1' q2 d1' d2 HB3 bel
 generalize W3.alloc (.cells #[.int .i64 1, .int .i64 2] 31) = W4 at s3 q1 p2 d1 c2 HB4 ⊢
 generalize W3.heap.size = X3 at s3 ⊢
 obtain ⟨x0, x1, x2, x3, x4, x5, x6⟩ := cells7 p2
 go_wp2_with (fail)
 clear x0 x1 x2 x3 x4 x5 x6
 refine (show Calls _ _ _ _ _ from prog_any W4 none none none none (some A2) 0 0 0 0 4 0 0 0 0 badC 2 0 c2 (by decide) (by decide) (by decide) (by decide) (by decide) (by decide)).mono ?_
 intro e W5 he
 rw [bad_audit] at he
 obtain ⟨F, rfl, -, hF, bel⟩ := he
 have s5 := (bel.block _ (blk_lt s3)).trans s3
 have q5 := (bel.block _ (blk_lt q1)).trans q1
 have d5 := Kd.C_below d1 bel
 have HB5 := hid_ (HB4.out.trans (bel.mono HB4.out.size))
 clear s3 q1 p2 d1 c2 HB4 bel
 go_upto_region 5 with (fail)
 have bel := below_alloc (Below.refl W5.heap.size W5) (.cells #[.int .i64 0, .int .i64 0] 31)
 have f6 := (bel.block _ (blk_lt hF)).trans hF
 have s6 := (bel.block _ (blk_lt s5)).trans s5
 have q6 := (bel.block _ (blk_lt q5)).trans q5
 have d6 := Kd.C_below d5 bel
 have HB6 := hid_ (HB5.out.trans (bel.mono HB5.out.size))
 clear hF s5 q5 d5 HB5 bel
 generalize W5.alloc (.cells #[.int .i64 0, .int .i64 0] 31) = W6 at f6 s6 q6 d6 HB6 ⊢
 generalize W5.heap.size = X5
 go_upto_region 6 with (fail)
 have bel := below_alloc (Below.refl W6.heap.size W6) (.cells #[.int .u8 66, .int .u8 82, .int .u8 84, .int .u8 1, .int .u8 1, .int .u8 0, .int .u8 0, .int .u8 0, .int .u8 0, .int .u8 0, .int .u8 2, .int .u8 2, .int .u8 0, .int .u8 36] 5)
 have c7 : Kd.C (Kd.int .u8) (W6.alloc (.cells #[.int .u8 66, .int .u8 82, .int .u8 84, .int .u8 1, .int .u8 1, .int .u8 0, .int .u8 0, .int .u8 0, .int .u8 0, .int .u8 0, .int .u8 2, .int .u8 2, .int .u8 0, .int .u8 36] 5)) (some ⟨W6.heap.size, 0, none⟩) goodB.length goodB := C_ints (t := 5) (heap_alloc_new W6 _) (by decide)
 have f7 := (bel.block _ (blk_lt f6)).trans f6
 have s7 := (bel.block _ (blk_lt s6)).trans s6
 have q7 := (bel.block _ (blk_lt q6)).trans q6
 have d7 := Kd.C_below d6 bel
 have HB7 := hid_ (HB6.out.trans (bel.mono HB6.out.size))
 clear f6 s6 q6 d6 HB6 bel
 generalize W6.alloc (.cells #[.int .u8 66, .int .u8 82, .int .u8 84, .int .u8 1, .int .u8 1, .int .u8 0, .int .u8 0, .int .u8 0, .int .u8 0, .int .u8 0, .int .u8 2, .int .u8 2, .int .u8 0, .int .u8 36] 5) = W7 at f7 s7 q7 d7 c7 HB7 ⊢
 generalize (⟨W6.heap.size, 0, none⟩ : Addr) = A7 at c7 ⊢
 refine (show Calls _ _ _ _ _ from bytes_any W7 (some A7) 14 goodB c7 (by decide) goodB_good).mono ?_
 intro e W8 he
 rw [good_bytes] at he
 obtain ⟨v, rfl, hp, bel⟩ : ∃ v, e = .returned (.tuple #[v, .agg #[.int .i64 1, .int .i64 2], .nilIface]) ∧ IsPg W7.heap.size goodP v W8 ∧ Below W7.heap.size W7 W8 := he
 obtain ⟨B0, B1, B2, B3, B4, e0, e1, e2, e3, e4, rfl, -⟩ := hp.read
 have f8 := (bel.block _ (blk_lt f7)).trans f7
 have s8 := (bel.block _ (blk_lt s7)).trans s7
 have q8 := (bel.block _ (blk_lt q7)).trans q7
 have d8 := Kd.C_below d7 bel
 have HB8 := hid_ (HB7.out.trans (bel.mono HB7.out.size))
 clear f7 s7 q7 d7 c7 HB7 bel hp
 rw [show valPg B0 B1 B2 B3 B4 e0 e1 e2 e3 e4 goodP = .agg #[.slice B0 0 e0, .slice B1 0 e1, .slice B2 0 e2, .slice B3 0 e3, .slice B4 2 e4, .int .i64 1, .int .i64 0] from rfl]
 go_upto_region 6 with (fail)
 have bel := below_alloc (below_alloc (Below.refl W8.heap.size W8) (.cells #[.slice B0 0 e0, .slice B1 0 e1, .slice B2 0 e2, .slice B3 0 e3, .slice B4 2 e4, .int .i64 1, .int .i64 0] 28)) (.cells #[.int .i64 1, .int .i64 2] 31)
 have b9 := heap_alloc_new W8 (.cells #[.slice B0 0 e0, .slice B1 0 e1, .slice B2 0 e2, .slice B3 0 e3, .slice B4 2 e4, .int .i64 1, .int .i64 0] 28)
 have b9 := (heap_alloc_old _ (.cells #[.int .i64 1, .int .i64 2] 31) (blk_lt b9)).trans b9
 have t9 := heap_alloc_new (W8.alloc (.cells #[.slice B0 0 e0, .slice B1 0 e1, .slice B2 0 e2, .slice B3 0 e3, .slice B4 2 e4, .int .i64 1, .int .i64 0] 28)) (.cells #[.int .i64 1, .int .i64 2] 31)
 rw [World.size_alloc] at t9
 have f9 := (bel.block _ (blk_lt f8)).trans f8
 have s9 := (bel.block _ (blk_lt s8)).trans s8
 have q9 := (bel.block _ (blk_lt q8)).trans q8
 have d9 := Kd.C_below d8 bel
 have HB9 := hid_ (HB8.out.trans (bel.mono HB8.out.size))
 clear f8 s8 q8 d8 HB8 bel
 generalize (W8.alloc (.cells #[.slice B0 0 e0, .slice B1 0 e1, .slice B2 0 e2, .slice B3 0 e3, .slice B4 2 e4, .int .i64 1, .int .i64 0] 28)).alloc (.cells #[.int .i64 1, .int .i64 2] 31) = W9 at b9 t9 f9 s9 q9 d9 HB9 ⊢
 generalize W8.heap.size + 1 = Y9 at t9 ⊢
 generalize W8.heap.size = X9 at b9 ⊢
 obtain ⟨x0, x1, x2, x3, x4, x5, x6⟩ := cells7 q9
 go_wp2_with (fail)
 clear x0 x1 x2 x3 x4 x5 x6
 refine (show Calls _ _ _ _ _ from stacks_any W9 none none none none (some A1) 0 0 0 0 2 0 0 0 0 goodC 1 0 d9 (by decide) (by decide) (by decide) (by decide) (by decide) (by decide)).mono ?_
 intro e W10 he
 rw [good_audit] at he
 obtain ⟨tv, rfl, ht, bel⟩ := he
 obtain ⟨ad, c, A0, c0, a1, c1, rfl, y0, y1, y2, z0, z1⟩ := told_get ht
 have b10 := (bel.block _ (blk_lt b9)).trans b9
 have t10 := (bel.block _ (blk_lt t9)).trans t9
 have f10 := (bel.block _ (blk_lt f9)).trans f9
 have s10 := (bel.block _ (blk_lt s9)).trans s9
 have HB10 := hid_ (HB9.out.trans (bel.mono HB9.out.size))
 clear b9 t9 f9 s9 q9 d9 HB9 bel ht
 obtain ⟨x0, x1, x2, x3, x4, x5, x6⟩ := cells7 b10
 obtain ⟨x7, x8⟩ := cells2 t10
 obtain ⟨x9, x10⟩ := cells2 s10
 go_wp2_with (fail)
 clear x0 x1 x2 x3 x4 x5 x6 x7 x8 y0 y1 y2 z0 z1
 refine (show Calls _ _ _ _ _ from read_fault W10 F 218 3 (by decide) f10).mono ?_
 rintro e W11 ⟨rfl, bel⟩
 have e39 := eq39 W11
 go_wp2_with (fail)
 go_ret
 exact ⟨rfl, HB10.out.trans (bel.mono HB10.out.size)⟩
end Go.Proofs.Ytbnplhmmbnmagaa.D
namespace Go.Proofs.Ytbnplhmmbnmagaa.D
open Go.RowKit Go.Proofs.YtbnplhmmbnmagaaW.PrintWords Go.Proofs.YtbnplhmmbnmagaaW.PrintLast Go.Proofs.YtbnplhmmbnmagaaW.PrintMore Go.Proofs.Ytbnplhmmbnmagaa.All
set_option linter.unusedSimpArgs false
set_option linter.unusedVariables false
abbrev AR := Except (Int × Int) (List (List Int) × Int)
def errR {α : Type} : Except (Int × Int) α → Option (Int × Int)
  | .error f => some f
  | .ok _ => none
def mostR : AR → Int
  | .error _ => 0
  | .ok (_, m) => m
def stepsR (len : Nat) : AR → Int
  | .error _ => 0
  | .ok _ => len
def evIs (r : Option (Int × Int)) (ev : Value) (W : World) : Prop :=
  match r with
  | none => ev = .nilIface
  | some (i, n) => ∃ F, ev = .iface 95 (.pointer (some ⟨F, 0, none⟩)) ∧ W.heap[F]? = some (.cells #[.int .i64 n, .int .i64 i, .string ⟨#[]⟩, .nilIface] 98 (0, 0))
theorem evIs.below {r : Option (Int × Int)} {ev : Value} {W W2 : World} (h : evIs r ev W) (hb : Below W.heap.size W W2) : evIs r ev W2 := by
  cases r with
  | none => exact h
  | some f => obtain ⟨F, h1, h2⟩ := h; exact ⟨F, h1, (hb.block _ (blk_lt h2)).trans h2⟩
def codeR : Option (Int × Int) → Int
  | none => 0
  | some (_, n) => n
def atR : Option (Int × Int) → Int
  | none => 0
  | some (i, _) => i
def Num (r : Option (Int × Int)) : Prop := ∀ i n, r = some (i, n) → n ≠ 0
theorem read_any (r : Option (Int × Int)) (ev : Value) (w : World) (h : evIs r ev w) (hn : Num r) : Calls Try.prog 16 #[ev] w fun e w' => e = .returned (rdV (codeR r) (atR r)) ∧ Below w.heap.size w w' := by
  cases r with
  | none => obtain rfl := h; exact read_nil w
  | some f =>
    obtain ⟨i, n⟩ := f
    obtain ⟨F, rfl, hF⟩ := h
    exact read_fault w F n i (hn i n rfl) hF
theorem stepF_num {dep : Int} {r : S165} {x : S66} {s : St} {e : Int} (h : stepF dep r x s = .error e) : 214 ≤ e ∧ e ≤ 219 := by
 unfold stepF at h
 split at h
 ·
  injection h with h; omega
 split at h
 ·
  injection h with h; omega
 split at h
 ·
  rename_i e2 hp
  injection h with h
  subst h
  unfold putF at hp
  split at hp
  ·
   cases hp
  split at hp
  ·
   cases hp
  split at hp
  ·
   split at hp
   ·
    injection hp with hp; omega
   ·
    cases hp
  ·
   cases hp
 ·
  split at h
  ·
   injection h with h; omega
  split at h
  ·
   injection h with h; omega
  ·
   cases h
theorem runL_num (k : Wk) : ∀ (d i : Nat) (s : St) (M : List (Int × St)) (told : List (List Int)) (most : Int) (p n : Int), runL k d i s M told most = .error (p, n) → n ≠ 0
  | 0, i, s, M, told, most, p, n, h => by cases h
  | d + 1, i, s, M, told, most, p, n, h => by
    rw [runL] at h
    split at h
    · rename_i hf
      injection h with h; injection h with h1 h2
      subst h2; exact hf
    split at h
    · injection h with h; injection h with h1 h2; omega
    split at h
    · rename_i e he
      injection h with h; injection h with h1 h2
      have := stepF_num he
      omega
    · rename_i s2 he
      split at h
      · exact runL_num k d _ _ _ _ _ p n h
      split at h
      · cases h
      · exact runL_num k d _ _ _ _ _ p n h
theorem auditF_num {nT nN nS nM : Nat} {C : List S66} {dep loc : Int} : Num (errR (auditF nT nN nS nM C dep loc)) := by
 intro p n h
 by_cases hd : Declared nT nN nS nM C dep loc
 ·
  rw [auditF_bad hd] at h
  injection h with h; injection h with h1 h2; omega
 ·
  rw [auditF_ok hd] at h
  split at h
  ·
   injection h with h; injection h with h1 h2; omega
  ·
   cases hr : runF (K0 nT nN nS nM C dep loc) with
   | ok x => rw [hr] at h; cases h
   | error f =>
    rw [hr] at h
    injection h with h
    subst h
    exact runL_num _ _ _ _ _ _ _ _ _ hr
theorem auditP_num (g : Pg) : Num (errR (auditP g)) := auditF_num
theorem InPg.lens {w : World} {A0 A1 A2 A3 A4 : Option Addr} {c0 c1 c2 c3 c4 : Nat} {g : Pg} (f : Fits g) : g.T.length ≤ 140737488355328 ∧ g.N.length ≤ 140737488355328 ∧ g.S.length ≤ 140737488355328 ∧ g.M.length ≤ 140737488355328 ∧ g.C.length ≤ 140737488355328 := by
  obtain ⟨h1, h2, h3, h4, h5, h6, h7⟩ := f
  omega
section
variable (w : World) (A0 A1 A2 A3 A4 : Option Addr) (c0 c1 c2 c3 c4 : Nat) (g : Pg)
theorem prog_u (h : InPg w A0 A1 A2 A3 A4 c0 c1 c2 c3 c4 g) (f : Fits g) :
    Calls Try.prog 11 #[valPg A0 A1 A2 A3 A4 c0 c1 c2 c3 c4 g] w fun e w' => ∃ ev, e = .returned (.tuple #[.agg #[.int .i64 (mostR (auditP g)), .int .i64 (stepsR g.C.length (auditP g))], ev]) ∧ evIs (errR (auditP g)) ev w' ∧ Below w.heap.size w w' := by
  obtain ⟨l0, l1, l2, l3, l4⟩ := InPg.lens (w := w) (A0 := A0) (A1 := A1) (A2 := A2) (A3 := A3) (A4 := A4) (c0 := c0) (c1 := c1) (c2 := c2) (c3 := c3) (c4 := c4) f
  refine (prog_any w A0 A1 A2 A3 A4 c0 c1 c2 c3 c4 g.T.length g.N.length g.S.length g.M.length g.C g.dep g.loc h.C h.lC l0 l1 l2 l3 l4).mono ?_
  intro e w' he
  change ProgEnd w g.C.length (auditP g) e w' at he
  cases hr : auditP g with
  | error x => obtain ⟨i, n⟩ := x; rw [hr] at he; obtain ⟨F, rfl, -, hF, hb⟩ := he; exact ⟨_, rfl, ⟨F, rfl, hF⟩, hb⟩
  | ok x => obtain ⟨t, m⟩ := x; rw [hr] at he; obtain ⟨rfl, hb⟩ := he; exact ⟨_, rfl, rfl, hb⟩
end
end Go.Proofs.Ytbnplhmmbnmagaa.D
namespace Go.Proofs.Ytbnplhmmbnmagaa.D
open Go.RowKit Go.Proofs.YtbnplhmmbnmagaaW.PrintWords Go.Proofs.YtbnplhmmbnmagaaW.PrintLast Go.Proofs.YtbnplhmmbnmagaaW.PrintMore Go.Proofs.Ytbnplhmmbnmagaa.All
set_option linter.unusedSimpArgs false
set_option linter.unusedVariables false
structure StL (w W : World) (X : Nat) (A0 A1 A2 A3 A4 : Option Addr) (c0 c1 c2 c3 c4 : Nat) (g : Pg) : Prop where
  below : Below w.heap.size w W
  box : W.heap[X]? = some (.cells #[.slice A0 g.T.length c0, .slice A1 g.N.length c1, .slice A2 g.S.length c2, .slice A3 g.M.length c3, .slice A4 g.C.length c4, .int .i64 g.dep, .int .i64 g.loc] 28 (0, 0))
  pg : InPg W A0 A1 A2 A3 A4 c0 c1 c2 c3 c4 g
theorem StL.next {w W W2 : World} {X : Nat} {A0 A1 A2 A3 A4 : Option Addr} {c0 c1 c2 c3 c4 : Nat} {g : Pg} (h : StL w W X A0 A1 A2 A3 A4 c0 c1 c2 c3 c4 g) (hb : Below W.heap.size W W2) : StL w W2 X A0 A1 A2 A3 A4 c0 c1 c2 c3 c4 g :=
  ⟨h.below.trans (hb.mono h.below.size), (hb.block _ (blk_lt h.box)).trans h.box, h.pg.below hb⟩
theorem StL.start (w : World) {A0 A1 A2 A3 A4 : Option Addr} {c0 c1 c2 c3 c4 : Nat} {g : Pg} (h : InPg w A0 A1 A2 A3 A4 c0 c1 c2 c3 c4 g) : StL w (w.alloc (.cells #[.slice A0 g.T.length c0, .slice A1 g.N.length c1, .slice A2 g.S.length c2, .slice A3 g.M.length c3, .slice A4 g.C.length c4, .int .i64 g.dep, .int .i64 g.loc] 28)) w.heap.size A0 A1 A2 A3 A4 c0 c1 c2 c3 c4 g :=
  ⟨below_alloc (Below.refl _ _) _, heap_alloc_new _ _, h.below (below_alloc (Below.refl _ _) _)⟩
theorem blk_next {W W2 : World} {k : Nat} {o : Obj} (h : W.heap[k]? = some o) (hb : Below W.heap.size W W2) : W2.heap[k]? = some o := (hb.block _ (blk_lt h)).trans h
end Go.Proofs.Ytbnplhmmbnmagaa.D
namespace Go.Proofs.Ytbnplhmmbnmagaa.D
open Go.RowKit Go.Proofs.YtbnplhmmbnmagaaW.PrintWords Go.Proofs.YtbnplhmmbnmagaaW.PrintLast Go.Proofs.YtbnplhmmbnmagaaW.PrintMore Go.Proofs.Ytbnplhmmbnmagaa.All
set_option linter.unusedSimpArgs false
set_option linter.unusedVariables false
theorem set_far {W : World} {k : Nat} {o : Obj} {a : Addr} {v : Value} (h : W.heap[k]? = some o) (hk : k ≠ a.block) : (W.setCell a v).heap[k]? = some o := (Below.heap_setCell W a v k hk).trans h
end Go.Proofs.Ytbnplhmmbnmagaa.D
namespace Go.Proofs.Ytbnplhmmbnmagaa.D
open Go.RowKit Go.Proofs.YtbnplhmmbnmagaaW.PrintWords Go.Proofs.YtbnplhmmbnmagaaW.PrintLast Go.Proofs.YtbnplhmmbnmagaaW.PrintMore Go.Proofs.Ytbnplhmmbnmagaa.All
set_option linter.unusedSimpArgs false
set_option linter.unusedVariables false
def rowAt (W : World) (base : Nat) (A : Option Addr) (n t : Nat) : Prop := n = 0 ∨ ∃ b cur, A = some ⟨b, 0, none⟩ ∧ base ≤ b ∧ W.heap[b]? = some (.cells cur t (0, 0)) ∧ n ≤ cur.size
theorem rowAt_own {W : World} {base n size : Nat} {e : TypeId} {v : Value} {cs : List Value} (h : W.ownsRow base e size v n cs) (hs : 0 < size) : ∃ A c, v = .slice A n c ∧ n ≤ c ∧ rowAt W base A n e := by
 rcases h.2 with ⟨rfl, rfl⟩ | ⟨g, cap, cur, rfl, hb, hh, hnc, -, hcs, -⟩
 ·
  exact ⟨none, 0, rfl, Nat.le_refl _, .inl rfl⟩
 ·
  exact ⟨some ⟨g, 0, none⟩, cap, rfl, hnc, .inr ⟨g, cur, rfl, hb, hh, by rw [hcs]; exact Nat.le_trans hnc (Nat.le_mul_of_pos_right _ hs)⟩⟩
theorem row_of_R {α : Type} {d : Kd α} {e base : Nat} {ok : Nat → Prop} {W : World} {v : Value} {xs : List α} (h : d.R e W base ok v xs) (hs : 0 < d.sz) : ∃ A c, v = .slice A xs.length c ∧ xs.length ≤ c ∧ rowAt W base A xs.length e ∧ d.C W A xs.length xs := by
  obtain ⟨inner, ho⟩ := Kd.R_own h
  obtain ⟨A, c, rfl, hc, hr⟩ := rowAt_own ho hs
  obtain ⟨A', c', he, hc', hC⟩ := Kd.R_reads h
  injection he with h1 h2 h3
  subst h1
  exact ⟨A, c, rfl, hc, hr, hC⟩
def Fr (W W' : World) : Prop := ∀ (k : Nat) (cells : Array Value) (t : Nat), W.heap[k]? = some (.cells cells t (0, 0)) → ∃ cells' : Array Value, W'.heap[k]? = some (.cells cells' t (0, 0)) ∧ cells'.size = cells.size ∧ (t ≠ 9 → t ≠ 3 → t ≠ 22 → t ≠ 23 → cells' = cells)
theorem Fr.refl (W : World) : Fr W W := fun k cells t h => ⟨cells, h, rfl, fun _ _ _ _ => rfl⟩
theorem Fr.trans {W W1 W2 : World} (h : Fr W W1) (h' : Fr W1 W2) : Fr W W2 := fun k cells t hk => by
  obtain ⟨c1, a1, a2, a3⟩ := h k cells t hk
  obtain ⟨c2, b1, b2, b3⟩ := h' k c1 t a1
  exact ⟨c2, b1, by omega, fun h1 h2 h3 h4 => by rw [b3 h1 h2 h3 h4, a3 h1 h2 h3 h4]⟩
theorem Fr.below {W W' : World} (h : Below W.heap.size W W') : Fr W W' := fun k cells t hk => ⟨cells, blk_next hk h, rfl, fun _ _ _ _ => rfl⟩
theorem Fr.set {W : World} {b i : Nat} {cur : Array Value} {t : Nat} {v : Value} (h : W.heap[b]? = some (.cells cur t (0, 0))) (ht : t = 9 ∨ t = 3 ∨ t = 22 ∨ t = 23) : Fr W (W.setCell ⟨b, i, none⟩ v) := fun k cells s hk => by
  by_cases hkb : k = b
  · subst hkb
    rw [h] at hk
    injection hk with hk
    injection hk with h1 h2
    subst h1; subst h2
    refine ⟨cur.setIfInBounds i v, ?_, by simp, fun h1 h2 h3 h4 => by omega⟩
    have := setCell_eq_setRow W k i cur t (0, 0) v h
    rw [this]
    exact setRow_heap _ _ _ _ _ _ h
  · exact ⟨cells, set_far hk hkb, rfl, fun _ _ _ _ => rfl⟩
theorem Fr.row {W W' : World} {base : Nat} {A : Option Addr} {n t : Nat} (h : Fr W W') (hr : rowAt W base A n t) : rowAt W' base A n t := by
 rcases hr with h0 | ⟨b, cur, h1, h2, h3, h4⟩
 ·
  exact .inl h0
 ·
  obtain ⟨c, g1, g2, -⟩ := h b cur t h3
  exact .inr ⟨b, c, h1, h2, g1, by omega⟩
theorem Fr.same {W W' : World} {k : Nat} {cells : Array Value} {t : Nat} (h : Fr W W') (hk : W.heap[k]? = some (.cells cells t (0, 0))) (h1 : t ≠ 9) (h2 : t ≠ 3) (h3 : t ≠ 22) (h4 : t ≠ 23) : W'.heap[k]? = some (.cells cells t (0, 0)) := by
  obtain ⟨c, g1, -, g3⟩ := h k cells t hk
  rw [g3 h1 h2 h3 h4] at g1
  exact g1
theorem Fr.err {W W' : World} {r : Option (Int × Int)} {ev : Value} (h : Fr W W') (he : evIs r ev W) : evIs r ev W' := by
  cases r with
  | none => exact he
  | some f => obtain ⟨F, h1, h2⟩ := he; exact ⟨F, h1, h.same h2 (by decide) (by decide) (by decide) (by decide)⟩
theorem Fr.code {W W' : World} {base : Nat} {A : Option Addr} {xs : List S66} (h : Fr W W') (hr : rowAt W base A xs.length 66) (hC : Kd.C k66 W A xs.length xs) : Kd.C k66 W' A xs.length xs := by
 obtain ⟨h1, h2, h3⟩ := hC
 refine ⟨h1, h2, fun hn => ?_⟩
 obtain ⟨ad, ha, hc⟩ := h3 hn
 refine ⟨ad, ha, fun j p hj => ?_⟩
 obtain ⟨c, c1, c2, c3⟩ := hc j p hj
 refine ⟨c, c1, ?_, fun i u hu => ?_⟩
 ·
  obtain rfl := k66_open c2
  exact k66_mk _ _
 ·
  have hc := c3 i u hu
  rcases hr with h0 | ⟨b, cur, e1, e2, e3, e4⟩
  ·
   omega
  ·
   rw [ha] at e1
   injection e1 with e1
   subst e1
   have hb : ((⟨b, 0, none⟩ : Addr).add (j * k66.sz + i)).block = b := by unfold Addr.add; split <;> rfl
   have hs := h.same e3 (by decide) (by decide) (by decide) (by decide)
   rw [← hc]
   exact World.cell?_of_block (w := W) (by rw [hb, hs, e3])
theorem copy_rows (w : World) (A0 A1 A2 A3 A4 : Option Addr) (c0 c1 c2 c3 c4 : Nat) (g : Pg) (hg : InPg w A0 A1 A2 A3 A4 c0 c1 c2 c3 c4 g) (sg : FitsB g) :
 Calls Try.prog 12 #[valPg A0 A1 A2 A3 A4 c0 c1 c2 c3 c4 g] w fun e w' => ∃ B0 B1 B2 B3 B4 e0 e1 e2 e3 e4, e = .returned (valPg B0 B1 B2 B3 B4 e0 e1 e2 e3 e4 g) ∧ (rowAt w' w.heap.size B0 g.T.length 9 ∧ g.T.length ≤ e0) ∧ (rowAt w' w.heap.size B1 g.N.length 3 ∧ g.N.length ≤ e1) ∧ (rowAt w' w.heap.size B2 g.S.length 22 ∧ g.S.length ≤ e2) ∧ (rowAt w' w.heap.size B3 g.M.length 23 ∧ g.M.length ≤ e3) ∧ (rowAt w' w.heap.size B4 g.C.length 66 ∧ g.C.length ≤ e4 ∧ Kd.C k66 w' B4 g.C.length g.C) ∧ Below w.heap.size w w' := by
 obtain ⟨k, h1⟩ := copy_f g sg
 refine (berthref20_Copy.calls k A0 c0 g.T A1 c1 g.N A2 c2 g.S A3 c3 g.M A4 c4 g.C g.dep g.loc g.T g.N g.S g.M g.C g.dep g.loc w hg.T hg.lT hg.N hg.lN hg.S hg.lS hg.M hg.lM hg.C hg.lC h1).mono ?_
 rintro e w' ⟨v0, v1, v2, v3, v4, rfl, hT, hN, hS, hM, hC, hb⟩
 obtain ⟨A0, c0, rfl, k0, r0, -⟩ := row_of_R hT (by decide)
 obtain ⟨A1, c1, rfl, k1, r1, -⟩ := row_of_R hN (by decide)
 obtain ⟨A2, c2, rfl, k2, r2, -⟩ := row_of_R (Kd.S_R hS) (by decide)
 obtain ⟨A3, c3, rfl, k3, r3, -⟩ := row_of_R (Kd.S_R hM) (by decide)
 obtain ⟨A4, c4, rfl, k4, r4, q4⟩ := row_of_R hC (by decide)
 exact ⟨A0, A1, A2, A3, A4, c0, c1, c2, c3, c4, rfl, ⟨r0, k0⟩, ⟨r1, k1⟩, ⟨r2, k2⟩, ⟨r3, k3⟩, ⟨r4, k4, q4⟩, hb⟩
def pools.T18 : Bool × List (List Nat × List Nat) := (true, [([], []), ([0], [0]), ([], []), ([], []), ([], []), ([3, 4], [3, 4]), ([], []), ([6], [6]), ([5, 7], [5, 7]), ([1, 2, 0, 1, 2, 3, 4, 5, 6, 7, 8], [1, 2]), ([9, 8, 0, 1, 2, 3, 4, 5, 6, 7, 8], [8, 9])])
def pools.B18 : List Nat := [0, 1, 0, 0, 0, 24, 0, 64, 248, 511, 1023]
theorem pools.tab18 : rtab .any (opsOf Try.f7 18) = pools.T18 := by kernel_rfl
theorem pools.bits18 : waitsOk pools.T18.2 pools.B18 = true := by kernel_rfl
def pools.T23 : Bool × List (List Nat × List Nat) := (true, [([], []), ([0], [0]), ([], []), ([], []), ([], []), ([4], [4]), ([3, 5], [3, 5]), ([], []), ([7], [7]), ([6, 8], [6, 8]), ([1, 2, 0, 1, 2, 3, 4, 5, 6, 7, 8, 9], [1, 2]), ([10, 9, 0, 1, 2, 3, 4, 5, 6, 7, 8, 9], [9, 10])])
def pools.B23 : List Nat := [0, 1, 0, 0, 0, 16, 56, 0, 128, 504, 1023, 2047]
theorem pools.tab23 : rtab .any (opsOf Try.f7 23) = pools.T23 := by kernel_rfl
theorem pools.bits23 : waitsOk pools.T23.2 pools.B23 = true := by kernel_rfl
theorem prog_c (w : World) (A0 A1 A2 A3 A4 : Option Addr) (c0 c1 c2 c3 c4 : Nat) (g : Pg) (hC : Kd.C k66 w A4 g.C.length g.C) (hc : g.C.length ≤ c4) (f : Fits g) :
    Calls Try.prog 11 #[valPg A0 A1 A2 A3 A4 c0 c1 c2 c3 c4 g] w fun e w' => ∃ ev, e = .returned (.tuple #[.agg #[.int .i64 (mostR (auditP g)), .int .i64 (stepsR g.C.length (auditP g))], ev]) ∧ evIs (errR (auditP g)) ev w' ∧ Below w.heap.size w w' := by
  obtain ⟨l0, l1, l2, l3, l4⟩ := InPg.lens (w := w) (A0 := A0) (A1 := A1) (A2 := A2) (A3 := A3) (A4 := A4) (c0 := c0) (c1 := c1) (c2 := c2) (c3 := c3) (c4 := c4) f
  refine (prog_any w A0 A1 A2 A3 A4 c0 c1 c2 c3 c4 g.T.length g.N.length g.S.length g.M.length g.C g.dep g.loc hC hc l0 l1 l2 l3 l4).mono ?_
  intro e w' he
  change ProgEnd w g.C.length (auditP g) e w' at he
  cases hr : auditP g with
  | error x => obtain ⟨i, n⟩ := x; rw [hr] at he; obtain ⟨F, rfl, -, hF, hb⟩ := he; exact ⟨_, rfl, ⟨F, rfl, hF⟩, hb⟩
  | ok x => obtain ⟨t, m⟩ := x; rw [hr] at he; obtain ⟨rfl, hb⟩ := he; exact ⟨_, rfl, rfl, hb⟩
theorem tmod4 (j : Nat) : ∃ m : Nat, (j : Int).tmod 4 = m ∧ m ≤ 3 := ⟨j % 4, by rw [Int.tmod_eq_emod_of_nonneg (by omega)]; omega, by omega⟩
theorem cell_in {W : World} {b j : Nat} {c : Array Value} {t : Nat} (h : W.heap[b]? = some (.cells c t (0, 0))) (hj : j < c.size) : W.cell? ⟨b, j, none⟩ = some c[j] := by simp [World.cell?, h, hj]
set_option maxHeartbeats 4000000 in
set_option maxRecDepth 100000 in
theorem pools_any (w : World) (A0 A1 A2 A3 A4 : Option Addr) (c0 c1 c2 c3 c4 : Nat) (g : Pg) (hI : InPg w A0 A1 A2 A3 A4 c0 c1 c2 c3 c4 g) (fb : FitsB g) (tx : ByteArray) (nu : Int) :
 Calls Try.prog 7 #[valPg A0 A1 A2 A3 A4 c0 c1 c2 c3 c4 g, .string tx, .int .i64 nu] w fun e w' => e = .returned (.bool true) ∧ Below w.heap.size w w' := by
 have f := fb.fits
 have st := StL.start w hI
 clear hI
 unfold valPg
 go_enter Try.func7, Try.ntmps7
 go_upto_region 1 with (fail)
 generalize w.alloc (.cells #[.slice A0 g.T.length c0, .slice A1 g.N.length c1, .slice A2 g.S.length c2, .slice A3 g.M.length c3, .slice A4 g.C.length c4, .int .i64 g.dep, .int .i64 g.loc] 28) = W0 at st ⊢
 have ST0 := hid_ st
 clear st
 go_wp2_with (fail)
 refine (wakes_any _).mono ?_
 rintro e W1 ⟨rfl, bel⟩
 have ST1 := hid_ (ST0.out.next bel)
 clear ST0 bel
 go_upto_region 3 with (fail)
 obtain ⟨x0, x1, x2, x3, x4, x5, x6⟩ := cells7 ST1.out.box
 go_wp2_with (fail)
 clear x0 x1 x2 x3 x4 x5 x6
 refine (show Calls _ _ _ _ _ from copy_any W1 A0 A1 A2 A3 A4 c0 c1 c2 c3 c4 g ST1.out.pg fb).mono ?_
 rintro e W2 ⟨B0, B1, B2, B3, B4, e0, e1, e2, e3, e4, rfl, hI2, bel⟩
 have ST2 := hid_ (ST1.out.next bel)
 clear ST1 bel
 go_wp2_with (fail)
 refine (show Calls _ _ _ _ _ from prog_u W2 B0 B1 B2 B3 B4 e0 e1 e2 e3 e4 g hI2 f).mono ?_
 rintro e W3 ⟨ev, rfl, hev, bel⟩
 have ST3 := hid_ (ST2.out.next bel)
 clear ST2 bel hI2
 generalize hm : mostR (auditP g) = most
 generalize hs : stepsR g.C.length (auditP g) = steps
 have HM := hid_ hm
 have HS := hid_ hs
 clear hm hs
 go_upto_region 4 with (fail)
 have bel := below_alloc (Below.refl W3.heap.size W3) (.cells #[.int .i64 most, .int .i64 steps] 31)
 have s4 := heap_alloc_new W3 (.cells #[.int .i64 most, .int .i64 steps] 31)
 have ST4 := hid_ (ST3.out.next bel)
 have hev4 := hev.below bel
 clear ST3 bel hev
 generalize W3.alloc (.cells #[.int .i64 most, .int .i64 steps] 31) = W4 at s4 ST4 hev4 ⊢
 generalize W3.heap.size = X4 at s4 ⊢
 obtain ⟨x0, x1, x2, x3, x4, x5, x6⟩ := cells7 ST4.out.box
 go_wp2_with (fail)
 clear x0 x1 x2 x3 x4 x5 x6
 refine (show Calls _ _ _ _ _ from copy_rows W4 A0 A1 A2 A3 A4 c0 c1 c2 c3 c4 g ST4.out.pg fb).mono ?_
 rintro e W5 ⟨D0, D1, D2, D3, D4, d0, d1, d2, d3, d4, rfl, ⟨r0, l0⟩, ⟨r1, l1⟩, ⟨r2, l2⟩, ⟨r3, l3⟩, ⟨r4, l4, hC⟩, bel⟩
 have hB5 := ST4.out.below.trans (bel.mono ST4.out.below.size)
 have hsz := ST4.out.below.size
 have hev5 := hev4.below bel
 have s5 := blk_next s4 bel
 clear bel hev4 s4
 unfold valPg
 go_upto_region 5 with (fail)
 have bel := below_alloc (Below.refl W5.heap.size W5) (.cells #[.slice D0 g.T.length d0, .slice D1 g.N.length d1, .slice D2 g.S.length d2, .slice D3 g.M.length d3, .slice D4 g.C.length d4, .int .i64 g.dep, .int .i64 g.loc] 28)
 have p6 := heap_alloc_new W5 (.cells #[.slice D0 g.T.length d0, .slice D1 g.N.length d1, .slice D2 g.S.length d2, .slice D3 g.M.length d3, .slice D4 g.C.length d4, .int .i64 g.dep, .int .i64 g.loc] 28)
 have HR0 := hid_ ((Fr.below bel).row r0)
 have HR1 := hid_ ((Fr.below bel).row r1)
 have HR2 := hid_ ((Fr.below bel).row r2)
 have HR3 := hid_ ((Fr.below bel).row r3)
 have HC6 := hid_ (And.intro ((Fr.below bel).row r4) (Kd.C_below hC bel))
 have HEV := hid_ (hev5.below bel)
 have HS6 := hid_ (blk_next s5 bel)
 have hB6 := hB5.trans (bel.mono hB5.size)
 have HSZ := hid_ hsz
 have HP6 := hid_ p6
 clear r0 r1 r2 r3 r4 hC hev5 s5 bel hB5 hsz ST4 l0 l1 l2 l3
 generalize W5.alloc (.cells #[.slice D0 g.T.length d0, .slice D1 g.N.length d1, .slice D2 g.S.length d2, .slice D3 g.M.length d3, .slice D4 g.C.length d4, .int .i64 g.dep, .int .i64 g.loc] 28) = W6 at p6 HR0 HR1 HR2 HR3 HC6 HEV HS6 hB6 HP6 ⊢
 generalize W5.heap.size = Q at p6 HP6 ⊢
 have n0 := f.T
 have n1 := f.N
 have n2 := f.S
 have n3 := f.M
 obtain ⟨x0, x1, x2, x3, x4, x5, x6⟩ := cells7 p6
 go_wp2_with (fail)
 clear x0 x1 x2 x3 x4 x5 x6 p6
 go_loopw [29] (fun i wr => ∃ j : Nat, j ≤ g.T.length ∧ i = .int .i64 j ∧ Fr W6 wr ∧ Below w.heap.size w wr) (fun i _ => g.T.length - (intOf i).toNat)
 case atStart => exact ⟨0, Nat.zero_le _, rfl, Fr.refl _, hB6⟩
 case round =>
  obtain ⟨j, hj, rfl, hfr, hbw⟩ := hrel
  by_cases hlt : j < g.T.length
  ·
   rcases hfr.row HR0.out with h0 | ⟨b, cur, e1, e2, e3, e4⟩
   ·
    omega
   obtain ⟨x0, x1, x2, x3, x4, x5, x6⟩ := cells7 (hfr.same HP6.out (by decide) (by decide) (by decide) (by decide))
   rw [e1] at x0
   have hjc : j < cur.size := by omega
   have y0 : wr.cell? ⟨b, j, none⟩ = some cur[j] := by simp [World.cell?, e3, hjc]
   have y1 := blk_frozen e3 j
   go_wp2_with (fail)
   go_roundw
   case rel => exact ⟨j + 1, by omega, by go_num, hfr.trans (Fr.set e3 (.inl rfl)), hbw.setCell (Nat.le_trans HSZ.out e2) _⟩
   case measure => simp [intOf]; omega
  ·
   have hje : j = g.T.length := by omega
   have hge : ¬ (j : Int) < (g.T.length : Int) := by omega
   have HF1 := hid_ hfr
   have HW1 := hid_ hbw
   obtain ⟨x0, x1, x2, x3, x4, x5, x6⟩ := cells7 (hfr.same HP6.out (by decide) (by decide) (by decide) (by decide))
   clear hlt hje hfr
   go_wp2_with (fail)
   clear x0 x1 x2 x3 x4 x5 x6 hge hj
   rename_i V1
   go_loopw [41] (fun i wr => ∃ j : Nat, j ≤ g.N.length ∧ i = .int .i64 j ∧ Fr W6 wr ∧ Below w.heap.size w wr) (fun i _ => g.N.length - (intOf i).toNat)
   case atStart => exact ⟨0, Nat.zero_le _, rfl, HF1.out, hbw⟩
   case round =>
    clear HF1 HW1 hbw
    obtain ⟨j, hj, rfl, hfr, hbw⟩ := hrel
    by_cases hlt : j < g.N.length
    ·
     rcases hfr.row HR1.out with h0 | ⟨b, cur, e1, e2, e3, e4⟩
     ·
      omega
     obtain ⟨x0, x1, x2, x3, x4, x5, x6⟩ := cells7 (hfr.same HP6.out (by decide) (by decide) (by decide) (by decide))
     rw [e1] at x1
     have hjc : j < cur.size := by omega
     have y0 : wr.cell? ⟨b, j, none⟩ = some cur[j] := by simp [World.cell?, e3, hjc]
     have y1 := blk_frozen e3 j
     go_wp2_with (fail)
     go_roundw
     case rel => exact ⟨j + 1, by omega, by go_num, hfr.trans (Fr.set e3 (.inr (.inl rfl))), hbw.setCell (Nat.le_trans HSZ.out e2) _⟩
     case measure => simp [intOf]; omega
    ·
     have hje : j = g.N.length := by omega
     have hge : ¬ (j : Int) < (g.N.length : Int) := by omega
     have HF1 := hid_ hfr
     have HW1 := hid_ hbw
     obtain ⟨x0, x1, x2, x3, x4, x5, x6⟩ := cells7 (hfr.same HP6.out (by decide) (by decide) (by decide) (by decide))
     clear hlt hje hfr
     go_wp2_with (fail)
     clear x0 x1 x2 x3 x4 x5 x6 hge hj
     go_loopw [53] (fun i wr => ∃ j : Nat, j ≤ g.S.length ∧ i = .int .i64 j ∧ Fr W6 wr ∧ Below w.heap.size w wr) (fun i _ => g.S.length - (intOf i).toNat)
     case atStart => exact ⟨0, Nat.zero_le _, rfl, HF1.out, hbw⟩
     case round =>
      clear HF1 HW1 hbw
      obtain ⟨j, hj, rfl, hfr, hbw⟩ := hrel
      by_cases hlt : j < g.S.length
      ·
       have hQ := hfr.same HP6.out (by decide) (by decide) (by decide) (by decide)
       rcases hfr.row HR2.out with h0 | ⟨b, cur, e1, e2, e3, e4⟩
       ·
        omega
       have hjc : j < cur.size := by omega
       have hji : (j : Int) < (g.S.length : Int) := by omega
       have hj0 : (0 : Int) ≤ (j : Int) := by omega
       obtain ⟨m, hm, hm3⟩ := tmod4 j
       have hmw : IntKind.i64.wrap (m : Int) = (m : Int) := IntWalk.i64_in _ ⟨by omega, by omega⟩
       have hm0 : (0 : Int) ≤ (m : Int) := by omega
       have hm4 : (m : Int) ≤ 3 := by omega
       have E1 := hid_ e1
       clear e1
       go_upto_region 18 with (fail)
       refine start_ (n := 11) (S := fun w' => w'.heap[Q]? = some (.cells #[.slice D0 g.T.length d0, .slice D1 g.N.length d1, .slice D2 g.S.length d2, .slice D3 g.M.length d3, .slice D4 g.C.length d4, .int .i64 g.dep, .int .i64 g.loc] 28 (0, 0)) ∧ Fr wr w' ∧ Below w.heap.size w w') (ds := []) (bm 11 0) (by kernel_rfl) rfl (by kernel_rfl) ⟨hQ, Fr.below (Below.refl _ _).drew, hbw.drew⟩ (fun hHeld => ?_)
       refine with_tabW pools.tab18 pools.bits18 (fun HT_ HW_ => ?_)
       refine pure_ (i := 0) (N := some 56) (v := ?_) (a' := ?_) (bm 11 1) rfl rfl (any_of HT_.out (by kernel_rfl)) (fun _ _ _ h => h) (Or.inl ⟨by rfl, ?_⟩) ?_ ?_
       rotate_left
       ·
        intro w'
        go_simp
        with_reducible rfl
       rotate_left
       ·
        simp only [Act.put, List.setIfInBounds_toArray, List.set_cons_zero, List.set_cons_succ]
        rfl
       refine pure_ (i := 2) (N := some 58) (v := ?_) (a' := ?_) (bm 11 5) rfl rfl (any_of HT_.out (by kernel_rfl)) (fun _ _ _ h => h) (Or.inl ⟨by rfl, ?_⟩) ?_ ?_
       rotate_left
       ·
        intro w'
        go_simp
        with_reducible rfl
       rotate_left
       ·
        simp only [Act.put, List.setIfInBounds_toArray, List.set_cons_zero, List.set_cons_succ]
        rfl
       refine pure_ (i := 3) (N := some 59) (v := ?_) (a' := ?_) (bm 11 13) rfl rfl (any_of HT_.out (by kernel_rfl)) (fun _ _ _ h => h) (Or.inl ⟨by rfl, ?_⟩) ?_ ?_
       rotate_left
       ·
        intro w'
        go_simp
        with_reducible rfl
       rotate_left
       ·
        simp only [Act.put, List.setIfInBounds_toArray, List.set_cons_zero, List.set_cons_succ]
        rfl
       refine pure_ (i := 4) (N := some 60) (v := ?_) (a' := ?_) (bm 11 29) rfl rfl (any_of HT_.out (by kernel_rfl)) (fun _ _ _ h => h) (Or.inl ⟨by rfl, ?_⟩) ?_ ?_
       rotate_left
       ·
        intro w'
        go_simp
        with_reducible rfl
       rotate_left
       ·
        simp only [Act.put, List.setIfInBounds_toArray, List.set_cons_zero, List.set_cons_succ]
        rfl
       refine pure_ (i := 6) (N := some 62) (v := ?_) (a' := ?_) (bm 11 93) rfl rfl (any_of HT_.out (by kernel_rfl)) (fun _ _ _ h => h) (Or.inl ⟨by rfl, ?_⟩) ?_ ?_
       rotate_left
       ·
        intro w'
        go_simp
        with_reducible rfl
       rotate_left
       ·
        simp only [Act.put, List.setIfInBounds_toArray, List.set_cons_zero, List.set_cons_succ]
        rfl
       refine pure_ (i := 7) (N := some 63) (v := ?_) (a' := ?_) (bm 11 221) rfl rfl (any_of HT_.out (by kernel_rfl)) (fun _ _ _ h => h) (Or.inl ⟨by rfl, ?_⟩) ?_ ?_
       rotate_left
       ·
        intro w'
        go_simp
        with_reducible rfl
       rotate_left
       ·
        simp only [Act.put, List.setIfInBounds_toArray, List.set_cons_zero, List.set_cons_succ]
        rfl
       refine take_ (i := 1) (N := some 57) (v := ?_) (a' := ?_) (bm 11 223) rfl rfl (take_ofW HT_.out HW_.out (by kernel_rfl)) (fun _ _ _ h => h) (Or.inl ⟨by rfl, ?_⟩) hHeld ?_ ?_
       rotate_left
       ·
        intro w' hS'
        obtain ⟨x0, x1, x2, x3, x4, x5, x6⟩ := cells7 hS'.1
        rw [E1.out] at x2
        go_simp
        with_reducible rfl
       rotate_left
       ·
        simp only [Act.put, List.setIfInBounds_toArray, List.set_cons_zero, List.set_cons_succ]
        rfl
       refine one_ (i := 5) (N := some 61) (bm 11 255) rfl rfl (one_of HT_.out (by kernel_rfl)) (by decide) (fun K hK => ?_)
       go_simp
       obtain ⟨s0, s1, s2⟩ := hHeld
       refine hK.out _ _ ⟨blk_next s0 (below_alloc (Below.refl _ _) _), s1.trans (Fr.below (below_alloc (Below.refl _ _) _)), s2.trans ((below_alloc (Below.refl _ _) _).mono s2.size)⟩ (fun hHeld => ?_)
       clear hK K
       refine pure_ (i := 8) (N := some 64) (v := ?_) (a' := ?_) (bm 11 511) rfl rfl (any_of HT_.out (by kernel_rfl)) (fun _ _ _ h => h) (Or.inl ⟨by rfl, ?_⟩) ?_ ?_
       rotate_left
       ·
        intro w'
        go_simp
        with_reducible rfl
       rotate_left
       ·
        simp only [Act.put, List.setIfInBounds_toArray, List.set_cons_zero, List.set_cons_succ]
        rfl
       refine pure_ (i := 9) (N := some 65) (v := ?_) (a' := ?_) (bm 11 1023) rfl rfl (any_of HT_.out (by kernel_rfl)) (fun _ _ _ h => h) (Or.inl ⟨by rfl, ?_⟩) ?_ ?_
       rotate_left
       ·
        intro w'
        go_simp
        with_reducible rfl
       rotate_left
       ·
        simp only [Act.put, List.setIfInBounds_toArray, List.set_cons_zero, List.set_cons_succ]
        rfl
       refine one_ (i := 10) (N := none) (bm 11 2047) rfl rfl (one_of HT_.out (by kernel_rfl)) (by decide) (fun K hK => ?_)
       obtain ⟨s0, s1, s2⟩ := hHeld
       obtain ⟨c', g1, g2, -⟩ := s1 b cur 22 e3
       have hjc' : j < c'.size := by omega
       have y0 : World.cell? _ ⟨b, j, none⟩ = some c'[j] := cell_in g1 hjc'
       have y1 := blk_frozen g1 j
       go_simp
       refine hK.out _ _ ⟨set_far s0 (fun h => by subst h; rw [g1] at s0; injection s0 with s0; injection s0 with _ h2; cases h2), s1.trans (Fr.set g1 (.inr (.inr (.inl rfl)))), s2.setCell (Nat.le_trans HSZ.out e2) _⟩ (fun hHeld => ?_)
       clear y0 y1
       clear hK K
       refine done_ (done_of HT_.out (by kernel_rfl)) ?_
       obtain ⟨-, s1, s2⟩ := hHeld
       go_wp2_with (fail)
       go_roundw
       case rel => exact ⟨j + 1, by omega, by go_num, hfr.trans s1, s2⟩
       case measure => simp [intOf]; omega
      ·
       have hje : j = g.S.length := by omega
       have hge : ¬ (j : Int) < (g.S.length : Int) := by omega
       have HF1 := hid_ hfr
       have HW1 := hid_ hbw
       obtain ⟨x0, x1, x2, x3, x4, x5, x6⟩ := cells7 (hfr.same HP6.out (by decide) (by decide) (by decide) (by decide))
       clear hlt hje hfr
       go_wp2_with (fail)
       clear x0 x1 x2 x3 x4 x5 x6 hge hj
       go_loopw [70] (fun i wr => ∃ j : Nat, j ≤ g.M.length ∧ i = .int .i64 j ∧ Fr W6 wr ∧ Below w.heap.size w wr) (fun i _ => g.M.length - (intOf i).toNat)
       case atStart => exact ⟨0, Nat.zero_le _, rfl, HF1.out, hbw⟩
       case round =>
        clear HF1 HW1 hbw
        obtain ⟨j, hj, rfl, hfr, hbw⟩ := hrel
        by_cases hlt : j < g.M.length
        ·
         have hQ := hfr.same HP6.out (by decide) (by decide) (by decide) (by decide)
         rcases hfr.row HR3.out with h0 | ⟨b, cur, e1, e2, e3, e4⟩
         ·
          omega
         have hjc : j < cur.size := by omega
         have hji : (j : Int) < (g.M.length : Int) := by omega
         have hj0 : (0 : Int) ≤ (j : Int) := by omega
         obtain ⟨m, hm, hm3⟩ := tmod4 j
         have hmw : IntKind.i64.wrap (m : Int) = (m : Int) := IntWalk.i64_in _ ⟨by omega, by omega⟩
         have hm0 : (0 : Int) ≤ (m : Int) := by omega
         have hm4 : (m : Int) ≤ 3 := by omega
         have E1 := hid_ e1
         clear e1
         go_upto_region 23 with (fail)
         refine start_ (n := 12) (S := fun w' => w'.heap[Q]? = some (.cells #[.slice D0 g.T.length d0, .slice D1 g.N.length d1, .slice D2 g.S.length d2, .slice D3 g.M.length d3, .slice D4 g.C.length d4, .int .i64 g.dep, .int .i64 g.loc] 28 (0, 0)) ∧ Fr wr w' ∧ Below w.heap.size w w') (ds := []) (bm 12 0) (by kernel_rfl) rfl (by kernel_rfl) ⟨hQ, Fr.below (Below.refl _ _).drew, hbw.drew⟩ (fun hHeld => ?_)
         refine with_tabW pools.tab23 pools.bits23 (fun HT_ HW_ => ?_)
         refine pure_ (i := 0) (N := some 73) (v := ?_) (a' := ?_) (bm 12 1) rfl rfl (any_of HT_.out (by kernel_rfl)) (fun _ _ _ h => h) (Or.inl ⟨by rfl, ?_⟩) ?_ ?_
         rotate_left
         ·
          intro w'
          go_simp
          with_reducible rfl
         rotate_left
         ·
          simp only [Act.put, List.setIfInBounds_toArray, List.set_cons_zero, List.set_cons_succ]
          rfl
         refine pure_ (i := 2) (N := some 75) (v := ?_) (a' := ?_) (bm 12 5) rfl rfl (any_of HT_.out (by kernel_rfl)) (fun _ _ _ h => h) (Or.inl ⟨by rfl, ?_⟩) ?_ ?_
         rotate_left
         ·
          intro w'
          go_simp
          with_reducible rfl
         rotate_left
         ·
          simp only [Act.put, List.setIfInBounds_toArray, List.set_cons_zero, List.set_cons_succ]
          rfl
         refine pure_ (i := 3) (N := some 76) (v := ?_) (a' := ?_) (bm 12 13) rfl rfl (any_of HT_.out (by kernel_rfl)) (fun _ _ _ h => h) (Or.inl ⟨by rfl, ?_⟩) ?_ ?_
         rotate_left
         ·
          intro w'
          go_simp
          with_reducible rfl
         rotate_left
         ·
          simp only [Act.put, List.setIfInBounds_toArray, List.set_cons_zero, List.set_cons_succ]
          rfl
         refine pure_ (i := 4) (N := some 77) (v := ?_) (a' := ?_) (bm 12 29) rfl rfl (any_of HT_.out (by kernel_rfl)) (fun _ _ _ h => h) (Or.inl ⟨by rfl, ?_⟩) ?_ ?_
         rotate_left
         ·
          intro w'
          go_simp
          with_reducible rfl
         rotate_left
         ·
          simp only [Act.put, List.setIfInBounds_toArray, List.set_cons_zero, List.set_cons_succ]
          rfl
         refine pure_ (i := 5) (N := some 78) (v := ?_) (a' := ?_) (bm 12 61) rfl rfl (any_of HT_.out (by kernel_rfl)) (fun _ _ _ h => h) (Or.inl ⟨by rfl, ?_⟩) ?_ ?_
         rotate_left
         ·
          intro w'
          go_simp
          with_reducible rfl
         rotate_left
         ·
          simp only [Act.put, List.setIfInBounds_toArray, List.set_cons_zero, List.set_cons_succ]
          rfl
         refine pure_ (i := 7) (N := some 80) (v := ?_) (a' := ?_) (bm 12 189) rfl rfl (any_of HT_.out (by kernel_rfl)) (fun _ _ _ h => h) (Or.inl ⟨by rfl, ?_⟩) ?_ ?_
         rotate_left
         ·
          intro w'
          go_simp
          with_reducible rfl
         rotate_left
         ·
          simp only [Act.put, List.setIfInBounds_toArray, List.set_cons_zero, List.set_cons_succ]
          rfl
         refine pure_ (i := 8) (N := some 81) (v := ?_) (a' := ?_) (bm 12 445) rfl rfl (any_of HT_.out (by kernel_rfl)) (fun _ _ _ h => h) (Or.inl ⟨by rfl, ?_⟩) ?_ ?_
         rotate_left
         ·
          intro w'
          go_simp
          with_reducible rfl
         rotate_left
         ·
          simp only [Act.put, List.setIfInBounds_toArray, List.set_cons_zero, List.set_cons_succ]
          rfl
         refine take_ (i := 1) (N := some 74) (v := ?_) (a' := ?_) (bm 12 447) rfl rfl (take_ofW HT_.out HW_.out (by kernel_rfl)) (fun _ _ _ h => h) (Or.inl ⟨by rfl, ?_⟩) hHeld ?_ ?_
         rotate_left
         ·
          intro w' hS'
          obtain ⟨x0, x1, x2, x3, x4, x5, x6⟩ := cells7 hS'.1
          rw [E1.out] at x3
          go_simp
          with_reducible rfl
         rotate_left
         ·
          simp only [Act.put, List.setIfInBounds_toArray, List.set_cons_zero, List.set_cons_succ]
          rfl
         refine one_ (i := 6) (N := some 79) (bm 12 511) rfl rfl (one_of HT_.out (by kernel_rfl)) (by decide) (fun K hK => ?_)
         go_simp
         obtain ⟨s0, s1, s2⟩ := hHeld
         refine hK.out _ _ ⟨blk_next s0 (below_alloc (Below.refl _ _) _), s1.trans (Fr.below (below_alloc (Below.refl _ _) _)), s2.trans ((below_alloc (Below.refl _ _) _).mono s2.size)⟩ (fun hHeld => ?_)
         clear hK K
         refine pure_ (i := 9) (N := some 82) (v := ?_) (a' := ?_) (bm 12 1023) rfl rfl (any_of HT_.out (by kernel_rfl)) (fun _ _ _ h => h) (Or.inl ⟨by rfl, ?_⟩) ?_ ?_
         rotate_left
         ·
          intro w'
          go_simp
          with_reducible rfl
         rotate_left
         ·
          simp only [Act.put, List.setIfInBounds_toArray, List.set_cons_zero, List.set_cons_succ]
          rfl
         refine pure_ (i := 10) (N := some 83) (v := ?_) (a' := ?_) (bm 12 2047) rfl rfl (any_of HT_.out (by kernel_rfl)) (fun _ _ _ h => h) (Or.inl ⟨by rfl, ?_⟩) ?_ ?_
         rotate_left
         ·
          intro w'
          go_simp
          with_reducible rfl
         rotate_left
         ·
          simp only [Act.put, List.setIfInBounds_toArray, List.set_cons_zero, List.set_cons_succ]
          rfl
         refine one_ (i := 11) (N := none) (bm 12 4095) rfl rfl (one_of HT_.out (by kernel_rfl)) (by decide) (fun K hK => ?_)
         obtain ⟨s0, s1, s2⟩ := hHeld
         obtain ⟨c', g1, g2, -⟩ := s1 b cur 23 e3
         have hjc' : j < c'.size := by omega
         have y0 : World.cell? _ ⟨b, j, none⟩ = some c'[j] := cell_in g1 hjc'
         have y1 := blk_frozen g1 j
         go_simp
         refine hK.out _ _ ⟨set_far s0 (fun h => by subst h; rw [g1] at s0; injection s0 with s0; injection s0 with _ h2; cases h2), s1.trans (Fr.set g1 (.inr (.inr (.inr rfl)))), s2.setCell (Nat.le_trans HSZ.out e2) _⟩ (fun hHeld => ?_)
         clear y0 y1
         clear hK K
         refine done_ (done_of HT_.out (by kernel_rfl)) ?_
         obtain ⟨-, s1, s2⟩ := hHeld
         simp only [i64_w] at s1 s2
         go_wp2_with (fail)
         go_roundw
         case rel => exact ⟨j + 1, by omega, by go_num, hfr.trans s1, s2⟩
         case measure => simp [intOf]; omega
        ·
         have hje : j = g.M.length := by omega
         have hge : ¬ (j : Int) < (g.M.length : Int) := by omega
         have HF1 := hid_ hfr
         have HW1 := hid_ hbw
         obtain ⟨x0, x1, x2, x3, x4, x5, x6⟩ := cells7 (hfr.same HP6.out (by decide) (by decide) (by decide) (by decide))
         clear hlt hje hfr
         go_wp2_with (fail)
         clear x0 x1 x2 x3 x4 x5 x6 hge hj hbw
         have hcode := HF1.out.code HC6.out.1 HC6.out.2
         refine (show Calls _ _ _ _ _ from prog_c wr D0 D1 D2 D3 D4 d0 d1 d2 d3 d4 g hcode l4 f).mono ?_
         rintro e V7 ⟨ev2, rfl, hev2, bel⟩
         rw [HM.out, HS.out]
         have hevA := (HF1.out.err HEV.out).below bel
         have sA := blk_next (HF1.out.same HS6.out (by decide) (by decide) (by decide) (by decide)) bel
         have HWA := hid_ (HW1.out.trans (bel.mono HW1.out.size))
         clear HF1 HW1 bel hcode
         go_upto_region 26 with (fail)
         have bel := below_alloc (Below.refl V7.heap.size V7) (.cells #[.int .i64 most, .int .i64 steps] 31)
         have t8 := heap_alloc_new V7 (.cells #[.int .i64 most, .int .i64 steps] 31)
         have s8 := blk_next sA bel
         have ev8 := hevA.below bel
         have ew8 := hev2.below bel
         have HWB := hid_ (HWA.out.trans (bel.mono HWA.out.size))
         clear sA hevA hev2 HWA bel
         generalize V7.alloc (.cells #[.int .i64 most, .int .i64 steps] 31) = V8 at t8 s8 ev8 ew8 HWB ⊢
         generalize V7.heap.size = T8 at t8 ⊢
         obtain ⟨x0, x1⟩ := cells2 s8
         obtain ⟨y0, y1⟩ := cells2 t8
         go_wp2_with (fail)
         clear x0 x1 y0 y1
         refine (show Calls _ _ _ _ _ from read_any (errR (auditP g)) ev V8 ev8 (auditP_num g)).mono ?_
         rintro e V9 ⟨rfl, bel⟩
         have ew9 := ew8.below bel
         have HWC := hid_ (HWB.out.trans (bel.mono HWB.out.size))
         clear ew8 ev8 HWB bel t8 s8
         go_wp2_with (fail)
         refine (show Calls _ _ _ _ _ from read_any (errR (auditP g)) ev2 V9 ew9 (auditP_num g)).mono ?_
         rintro e VA ⟨rfl, bel⟩
         have HWD := hid_ (HWC.out.trans (bel.mono HWC.out.size))
         clear HWC bel ew9
         have e39 := eq39 VA
         go_wp2_with (fail)
         go_ret
         exact ⟨rfl, HWD.out⟩
end Go.Proofs.Ytbnplhmmbnmagaa.D
namespace Go.Proofs.Ytbnplhmmbnmagaa.D
open Go.RowKit Go.Proofs.YtbnplhmmbnmagaaW.PrintWords Go.Proofs.YtbnplhmmbnmagaaW.PrintLast Go.Proofs.YtbnplhmmbnmagaaW.PrintMore Go.Proofs.Ytbnplhmmbnmagaa.All
set_option linter.unusedVariables false
noncomputable def berthlaw21_AuditPools.f (T : List ByteArray) (N : List Int) (S : List (List ByteArray)) (M : List (List Int)) (C : List S66) (d l : Int) (tx : ByteArray) (nu : Int) : Option Bool := @ite _ (FitsB ⟨T, N, S, M, C, d, l⟩) (Classical.propDecidable _) (some true) none
theorem berthlaw21_AuditPools.calls (A0 : Option Addr) (c0 : Nat) (T : List ByteArray) (A1 : Option Addr) (c1 : Nat) (N : List Int) (A2 : Option Addr) (c2 : Nat) (S : List (List ByteArray)) (A3 : Option Addr) (c3 : Nat) (M : List (List Int)) (A4 : Option Addr) (c4 : Nat) (C : List S66) (d l : Int) (tx : ByteArray) (nu : Int) (r : Bool) (w : World)
 (hT : Kd.C Kd.string w A0 T.length T) (lT : T.length ≤ c0) (hN : Kd.C (Kd.int .i64) w A1 N.length N) (lN : N.length ≤ c1) (hS : Kd.C (Kd.slice 9 Kd.string) w A2 S.length S) (lS : S.length ≤ c2) (hM : Kd.C (Kd.slice 3 (Kd.int .i64)) w A3 M.length M) (lM : M.length ≤ c3) (hC : Kd.C k66 w A4 C.length C) (lC : C.length ≤ c4)
 (h : berthlaw21_AuditPools.f T N S M C d l tx nu = some r) :
 Calls Try.prog 7 #[.agg #[.slice A0 T.length c0, .slice A1 N.length c1, .slice A2 S.length c2, .slice A3 M.length c3, .slice A4 C.length c4, .int .i64 d, .int .i64 l], .string tx, .int .i64 nu] w fun e w' => e = .returned (.bool r) ∧ Below w.heap.size w w' := by
 unfold berthlaw21_AuditPools.f at h
 split at h
 ·
  next f =>
  obtain rfl := Option.some.inj h
  exact pools_any w A0 A1 A2 A3 A4 c0 c1 c2 c3 c4 ⟨T, N, S, M, C, d, l⟩ ⟨hT, hN, hS, hM, hC, lT, lN, lS, lM, lC⟩ f tx nu
 ·
  cases h
end Go.Proofs.Ytbnplhmmbnmagaa.D
