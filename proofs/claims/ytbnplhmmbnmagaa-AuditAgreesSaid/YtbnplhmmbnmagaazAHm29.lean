/- wakes. -/
import Derived.Test.YtbnplhmmbnmagaazAHm19
import Derived.Test.YtbnplhmmbnmagaazAHm28
import Derived.Test.YtbnplhmmbnmagaazAHm26
import Derived.DeepKeys
import Derived.Test.YtbnplhmmbnmagaazAHm24
import Derived.Test.YtbnplhmmbnmagaazAHm23
import Derived.Test.YtbnplhmmbnmagaazAHm10
namespace Go.Proofs.Ytbnplhmmbnmagaa.D
open Go.RowKit Go.Proofs.YtbnplhmmbnmagaaW.PrintWords Go.Proofs.YtbnplhmmbnmagaaW.PrintLast Go.Proofs.YtbnplhmmbnmagaaW.PrintMore Go.Proofs.Ytbnplhmmbnmagaa.All
set_option linter.unusedSimpArgs false
set_option linter.unusedVariables false
def goodP : Pg := ⟨[], [], [], [], goodC, 1, 0⟩
def goodB : List Int := [66, 82, 84, 1, 1, 0, 0, 0, 0, 0, 2, 2, 0, 36]
theorem goodP_formed : formedB goodP = true := by decide
theorem goodP_enc : encP goodP = goodB := by decide
theorem goodB_dec : programF goodB = .ok (goodP, (goodB.length : Int)) := by rw [← goodP_enc]; exact program_rt goodP goodP_formed
theorem goodB_good : Good goodB := by rw [← goodP_enc]; exact encP_good goodP goodP_formed
theorem good_bytes : bytesF goodB = .ok (goodP, 1) := bytesF_ok goodB_dec (by unfold auditP; exact good_audit)
theorem C66_2 (W : World) (g t : Nat) (x y : S66) (h : W.heap[g]? = some (.cells #[.int .i64 x.f0, .int .i64 x.f1, .int .i64 x.f2, .int .i64 x.f3, .int .i64 y.f0, .int .i64 y.f1, .int .i64 y.f2, .int .i64 y.f3] t (0, 0))) : Kd.C k66 W (some ⟨g, 0, none⟩) 2 [x, y] := by
 refine ⟨rfl, by decide, fun _ => ⟨⟨g, 0, none⟩, rfl, fun j p hj => ?_⟩⟩
 rcases j with _ | _ | j
 ·
  obtain rfl : x = p := by simpa using hj
  refine ⟨_, rfl, k66_mk _ _, fun i u hu => ?_⟩
  rcases i with _ | _ | _ | _ | i <;> simp_all [World.cell?, Addr.add, k66, Kd.iso, Kd.pair, Kd.int, Kd.scalar]
 ·
  obtain rfl : y = p := by simpa using hj
  refine ⟨_, rfl, k66_mk _ _, fun i u hu => ?_⟩
  rcases i with _ | _ | _ | _ | i <;> simp_all [World.cell?, Addr.add, k66, Kd.iso, Kd.pair, Kd.int, Kd.scalar]
 ·
  simp at hj
theorem C66_4 (W : World) (g t : Nat) (x y z u : S66) (h : W.heap[g]? = some (.cells #[.int .i64 x.f0, .int .i64 x.f1, .int .i64 x.f2, .int .i64 x.f3, .int .i64 y.f0, .int .i64 y.f1, .int .i64 y.f2, .int .i64 y.f3, .int .i64 z.f0, .int .i64 z.f1, .int .i64 z.f2, .int .i64 z.f3, .int .i64 u.f0, .int .i64 u.f1, .int .i64 u.f2, .int .i64 u.f3] t (0, 0))) : Kd.C k66 W (some ⟨g, 0, none⟩) 4 [x, y, z, u] := by
 refine ⟨rfl, by decide, fun _ => ⟨⟨g, 0, none⟩, rfl, fun j p hj => ?_⟩⟩
 rcases j with _ | _ | _ | _ | j
 ·
  obtain rfl : x = p := by simpa using hj
  refine ⟨_, rfl, k66_mk _ _, fun i u hu => ?_⟩
  rcases i with _ | _ | _ | _ | i <;> simp_all [World.cell?, Addr.add, k66, Kd.iso, Kd.pair, Kd.int, Kd.scalar]
 ·
  obtain rfl : y = p := by simpa using hj
  refine ⟨_, rfl, k66_mk _ _, fun i u hu => ?_⟩
  rcases i with _ | _ | _ | _ | i <;> simp_all [World.cell?, Addr.add, k66, Kd.iso, Kd.pair, Kd.int, Kd.scalar]
 ·
  obtain rfl : z = p := by simpa using hj
  refine ⟨_, rfl, k66_mk _ _, fun i u hu => ?_⟩
  rcases i with _ | _ | _ | _ | i <;> simp_all [World.cell?, Addr.add, k66, Kd.iso, Kd.pair, Kd.int, Kd.scalar]
 ·
  obtain rfl : u = p := by simpa using hj
  refine ⟨_, rfl, k66_mk _ _, fun i u hu => ?_⟩
  rcases i with _ | _ | _ | _ | i <;> simp_all [World.cell?, Addr.add, k66, Kd.iso, Kd.pair, Kd.int, Kd.scalar]
 ·
  simp at hj
abbrev lnk0 : Value := .agg #[.int .i64 0, .int .i64 0, .int .i64 0, .string ⟨#[]⟩, .int .i64 0, .int .i64 0, .int .i64 0, .string ⟨#[]⟩, .int .i64 0, .int .i64 0, .int .i64 0, .string ⟨#[]⟩, .int .i64 0, .int .i64 0, .int .i64 0, .string ⟨#[]⟩]
set_option maxRecDepth 100000 in
theorem eq39 (w : World) : (Op.equalIn 9999 39 lnk0 lnk0).run Try.prog w = .ok true w := by
  have h := run_equalIn_deep (P := Try.prog) 9995 4 39 (by kernel_rfl)
  obtain ⟨r, hr, hi⟩ := h w 10 10 lnk0 lnk0 [.int .i64 0, .int .i64 0, .int .i64 0, .string [], .int .i64 0, .int .i64 0, .int .i64 0, .string [], .int .i64 0, .int .i64 0, .int .i64 0, .string [], .int .i64 0, .int .i64 0, .int .i64 0, .string []] _ (by kernel_rfl) (by kernel_rfl) (by kernel_rfl) (by kernel_rfl)
  rw [hi.2 rfl] at hr
  exact hr
theorem cells7 {W : World} {X t : Nat} {a b c d e f g : Value} (h : W.heap[X]? = some (.cells #[a, b, c, d, e, f, g] t (0, 0))) : W.cell? ⟨X, 0, none⟩ = some a ∧ W.cell? ⟨X, 1, none⟩ = some b ∧ W.cell? ⟨X, 2, none⟩ = some c ∧ W.cell? ⟨X, 3, none⟩ = some d ∧ W.cell? ⟨X, 4, none⟩ = some e ∧ W.cell? ⟨X, 5, none⟩ = some f ∧ W.cell? ⟨X, 6, none⟩ = some g := by
  simp [World.cell?, h]
theorem cells2 {W : World} {X t : Nat} {a b : Value} (h : W.heap[X]? = some (.cells #[a, b] t (0, 0))) : W.cell? ⟨X, 0, none⟩ = some a ∧ W.cell? ⟨X, 1, none⟩ = some b := by
  simp [World.cell?, h]
theorem C_ints {k : IntKind} {W : World} {g t : Nat} {xs : List Int} (h : W.heap[g]? = some (.cells (xs.map (Value.int k)).toArray t (0, 0))) (hl : xs.length ≤ 9223372036854775807) : Kd.C (Kd.int k) W (some ⟨g, 0, none⟩) xs.length xs := by
 refine ⟨rfl, hl, fun _ => ⟨⟨g, 0, none⟩, rfl, fun j p hj => ⟨[.int k p], rfl, rfl, fun i u hu => ?_⟩⟩⟩
 rcases i with _ | i
 ·
  have hu' : Value.int k p = u := by simpa using hu
  subst hu'
  have hz : (Kd.int k).sz = 1 := rfl
  have ha : ((⟨g, 0, none⟩ : Addr).add (j * (Kd.int k).sz + 0)) = ⟨g, j, none⟩ := by rw [hz]; unfold Addr.add; split <;> simp_all
  rw [ha]
  simp [World.cell?, h, hj]
 ·
  simp at hu
theorem told_get {w : World} {base : Nat} {ok : Nat → Prop} {tv : Value} (h : told2.R 51 w base ok tv [[], [1]]) :
    ∃ ad c A0 c0 a1 c1, tv = .slice (some ad) 2 c ∧ w.cell? ad = some (.slice A0 0 c0) ∧ w.cell? ⟨ad.block, ad.off + 1, none⟩ = some (.slice (some a1) 1 c1) ∧ w.cell? a1 = some (.int .i64 1) ∧ 2 ≤ c ∧ 1 ≤ c1 := by
  obtain ⟨A, c, rfl, hc, hC⟩ := Kd.R_reads h
  obtain ⟨ad, cs, rfl, -, ⟨A0, c0, rfl, -, -⟩, h0⟩ := Kd.C_get hC [] 0 (by decide) (by decide)
  obtain ⟨ad2, cs, he, -, ⟨A1, c1, rfl, l1, hC1⟩, h1⟩ := Kd.C_get hC [] 1 (by decide) (by decide)
  injection he with he
  subst he
  obtain ⟨a1, cs, rfl, -, hk, h2⟩ := Kd.C_get hC1 0 0 (by decide) (by decide)
  obtain rfl : cs = [.int .i64 1] := hk
  have u0 := h0 0 _ rfl
  have u2 := h2 0 _ rfl
  rw [show (0 : Int).toNat * told2.sz + 0 = 0 from rfl] at u0
  rw [show (0 : Int).toNat * (Kd.int .i64).sz + 0 = 0 from rfl] at u2
  simp only [go_sem] at u0 u2
  exact ⟨ad, c, A0, c0, a1, c1, rfl, u0, h1 0 _ rfl, u2, hc, l1⟩
set_option maxHeartbeats 4000000 in
set_option maxRecDepth 100000 in
theorem wakes_any (w : World) : Calls Try.prog 10 #[] w fun e w' => e = .returned (.bool true) ∧ Below w.heap.size w w' := by
 go_enter Try.func10, Try.ntmps10
 go_upto_region 2 with (fail)
 have c1 : Kd.C k66 ((w.alloc (.cells #[.int .i64 2, .int .i64 0, .int .i64 0, .int .i64 0, .int .i64 36, .int .i64 0, .int .i64 0, .int .i64 0] 66)).alloc (.cells #[.slice none 0 0, .slice none 0 0, .slice none 0 0, .slice none 0 0, .slice (some ⟨w.heap.size, 0, none⟩) 2 2, .int .i64 1, .int .i64 0] 28)) (some ⟨w.heap.size, 0, none⟩) 2 goodC :=
  C66_2 _ _ 66 ⟨2, 0, 0, 0⟩ ⟨36, 0, 0, 0⟩ (by rw [heap_alloc_old _ _ (by simp)]; exact heap_alloc_new w _)
 have p1 := heap_alloc_new (w.alloc (.cells #[.int .i64 2, .int .i64 0, .int .i64 0, .int .i64 0, .int .i64 36, .int .i64 0, .int .i64 0, .int .i64 0] 66)) (.cells #[.slice none 0 0, .slice none 0 0, .slice none 0 0, .slice none 0 0, .slice (some ⟨w.heap.size, 0, none⟩) 2 2, .int .i64 1, .int .i64 0] 28)
 rw [World.size_alloc] at p1
 have hb : Below w.heap.size w ((w.alloc (.cells #[.int .i64 2, .int .i64 0, .int .i64 0, .int .i64 0, .int .i64 36, .int .i64 0, .int .i64 0, .int .i64 0] 66)).alloc (.cells #[.slice none 0 0, .slice none 0 0, .slice none 0 0, .slice none 0 0, .slice (some ⟨w.heap.size, 0, none⟩) 2 2, .int .i64 1, .int .i64 0] 28)) := below_alloc (below_alloc (Below.refl _ _) _) _
 have HB := hid_ hb
 clear hb
 generalize (w.alloc (.cells #[.int .i64 2, .int .i64 0, .int .i64 0, .int .i64 0, .int .i64 36, .int .i64 0, .int .i64 0, .int .i64 0] 66)).alloc (.cells #[.slice none 0 0, .slice none 0 0, .slice none 0 0, .slice none 0 0, .slice (some ⟨w.heap.size, 0, none⟩) 2 2, .int .i64 1, .int .i64 0] 28) = W1 at c1 p1 HB ⊢
 generalize w.heap.size + 1 = X1 at p1 ⊢
 generalize (⟨w.heap.size, 0, none⟩ : Addr) = A1 at c1 p1 ⊢
 go_upto_region 3 with (fail)
 have bel := below_alloc (below_alloc (Below.refl W1.heap.size W1) (.cells #[.int .i64 2, .int .i64 0, .int .i64 0, .int .i64 0, .int .i64 33, .int .i64 3, .int .i64 0, .int .i64 0, .int .i64 2, .int .i64 0, .int .i64 0, .int .i64 0, .int .i64 36, .int .i64 0, .int .i64 0, .int .i64 0] 66)) (.cells #[.slice none 0 0, .slice none 0 0, .slice none 0 0, .slice none 0 0, .slice (some ⟨W1.heap.size, 0, none⟩) 4 4, .int .i64 2, .int .i64 0] 28)
 have c2 : Kd.C k66 ((W1.alloc (.cells #[.int .i64 2, .int .i64 0, .int .i64 0, .int .i64 0, .int .i64 33, .int .i64 3, .int .i64 0, .int .i64 0, .int .i64 2, .int .i64 0, .int .i64 0, .int .i64 0, .int .i64 36, .int .i64 0, .int .i64 0, .int .i64 0] 66)).alloc (.cells #[.slice none 0 0, .slice none 0 0, .slice none 0 0, .slice none 0 0, .slice (some ⟨W1.heap.size, 0, none⟩) 4 4, .int .i64 2, .int .i64 0] 28)) (some ⟨W1.heap.size, 0, none⟩) 4 badC :=
  C66_4 _ _ 66 ⟨2, 0, 0, 0⟩ ⟨33, 3, 0, 0⟩ ⟨2, 0, 0, 0⟩ ⟨36, 0, 0, 0⟩ (by rw [heap_alloc_old _ _ (by simp)]; exact heap_alloc_new W1 _)
 have p2 := heap_alloc_new (W1.alloc (.cells #[.int .i64 2, .int .i64 0, .int .i64 0, .int .i64 0, .int .i64 33, .int .i64 3, .int .i64 0, .int .i64 0, .int .i64 2, .int .i64 0, .int .i64 0, .int .i64 0, .int .i64 36, .int .i64 0, .int .i64 0, .int .i64 0] 66)) (.cells #[.slice none 0 0, .slice none 0 0, .slice none 0 0, .slice none 0 0, .slice (some ⟨W1.heap.size, 0, none⟩) 4 4, .int .i64 2, .int .i64 0] 28)
 rw [World.size_alloc] at p2
 have q1 := (bel.block _ (blk_lt p1)).trans p1
 have d1 := Kd.C_below c1 bel
 have HB2 := hid_ (HB.out.trans (bel.mono HB.out.size))
 clear c1 p1 HB bel
 generalize (W1.alloc (.cells #[.int .i64 2, .int .i64 0, .int .i64 0, .int .i64 0, .int .i64 33, .int .i64 3, .int .i64 0, .int .i64 0, .int .i64 2, .int .i64 0, .int .i64 0, .int .i64 0, .int .i64 36, .int .i64 0, .int .i64 0, .int .i64 0] 66)).alloc (.cells #[.slice none 0 0, .slice none 0 0, .slice none 0 0, .slice none 0 0, .slice (some ⟨W1.heap.size, 0, none⟩) 4 4, .int .i64 2, .int .i64 0] 28) = W2 at c2 p2 q1 d1 HB2 ⊢
 generalize W1.heap.size + 1 = X2 at p2 ⊢
 generalize (⟨W1.heap.size, 0, none⟩ : Addr) = A2 at c2 p2 ⊢
 obtain ⟨x0, x1, x2, x3, x4, x5, x6⟩ := cells7 q1
 go_wp2_with (fail)
 clear x0 x1 x2 x3 x4 x5 x6
 refine (show Calls _ _ _ _ _ from prog_any W2 none none none none (some A1) 0 0 0 0 2 0 0 0 0 goodC 1 0 d1 (by decide) (by decide) (by decide) (by decide) (by decide) (by decide)).mono ?_
 intro e W3 he
 rw [good_audit] at he
 change ProgEnd W2 2 _ e W3 at he
 obtain ⟨rfl, bel⟩ := he
 have q1' := (bel.block _ (blk_lt q1)).trans q1
 have q2 := (bel.block _ (blk_lt p2)).trans p2
 have d1' := Kd.C_below d1 bel
 have d2 := Kd.C_below c2 bel
 have HB3 := hid_ (HB2.out.trans (bel.mono HB2.out.size))
 clear c2 p2 q1 d1 HB2 bel
 go_upto_region 4 with (fail)
 have bel := below_alloc (Below.refl W3.heap.size W3) (.cells #[.int .i64 1, .int .i64 2] 31)
 have s3 := heap_alloc_new W3 (.cells #[.int .i64 1, .int .i64 2] 31)
 have q1 := (bel.block _ (blk_lt q1')).trans q1'
 have p2 := (bel.block _ (blk_lt q2)).trans q2
 have d1 := Kd.C_below d1' bel
 have c2 := Kd.C_below d2 bel
 have HB4 := hid_ (HB3.out.trans (bel.mono HB3.out.size))
 clear q1' q2 d1' d2 HB3 bel
 generalize W3.alloc (.cells #[.int .i64 1, .int .i64 2] 31) = W4 at s3 q1 p2 d1 c2 HB4 ⊢
 generalize W3.heap.size = X3 at s3 ⊢
 obtain ⟨x0, x1, x2, x3, x4, x5, x6⟩ := cells7 p2
 go_wp2_with (fail)
 clear x0 x1 x2 x3 x4 x5 x6
 refine (show Calls _ _ _ _ _ from prog_any W4 none none none none (some A2) 0 0 0 0 4 0 0 0 0 badC 2 0 c2 (by decide) (by decide) (by decide) (by decide) (by decide) (by decide)).mono ?_
 intro e W5 he
 rw [bad_audit] at he
 obtain ⟨F, rfl, -, hF, bel⟩ := he
 have s5 := (bel.block _ (blk_lt s3)).trans s3
 have q5 := (bel.block _ (blk_lt q1)).trans q1
 have d5 := Kd.C_below d1 bel
 have HB5 := hid_ (HB4.out.trans (bel.mono HB4.out.size))
 clear s3 q1 p2 d1 c2 HB4 bel
 go_upto_region 5 with (fail)
 have bel := below_alloc (Below.refl W5.heap.size W5) (.cells #[.int .i64 0, .int .i64 0] 31)
 have f6 := (bel.block _ (blk_lt hF)).trans hF
 have s6 := (bel.block _ (blk_lt s5)).trans s5
 have q6 := (bel.block _ (blk_lt q5)).trans q5
 have d6 := Kd.C_below d5 bel
 have HB6 := hid_ (HB5.out.trans (bel.mono HB5.out.size))
 clear hF s5 q5 d5 HB5 bel
 generalize W5.alloc (.cells #[.int .i64 0, .int .i64 0] 31) = W6 at f6 s6 q6 d6 HB6 ⊢
 generalize W5.heap.size = X5
 go_upto_region 6 with (fail)
 have bel := below_alloc (Below.refl W6.heap.size W6) (.cells #[.int .u8 66, .int .u8 82, .int .u8 84, .int .u8 1, .int .u8 1, .int .u8 0, .int .u8 0, .int .u8 0, .int .u8 0, .int .u8 0, .int .u8 2, .int .u8 2, .int .u8 0, .int .u8 36] 5)
 have c7 : Kd.C (Kd.int .u8) (W6.alloc (.cells #[.int .u8 66, .int .u8 82, .int .u8 84, .int .u8 1, .int .u8 1, .int .u8 0, .int .u8 0, .int .u8 0, .int .u8 0, .int .u8 0, .int .u8 2, .int .u8 2, .int .u8 0, .int .u8 36] 5)) (some ⟨W6.heap.size, 0, none⟩) goodB.length goodB := C_ints (t := 5) (heap_alloc_new W6 _) (by decide)
 have f7 := (bel.block _ (blk_lt f6)).trans f6
 have s7 := (bel.block _ (blk_lt s6)).trans s6
 have q7 := (bel.block _ (blk_lt q6)).trans q6
 have d7 := Kd.C_below d6 bel
 have HB7 := hid_ (HB6.out.trans (bel.mono HB6.out.size))
 clear f6 s6 q6 d6 HB6 bel
 generalize W6.alloc (.cells #[.int .u8 66, .int .u8 82, .int .u8 84, .int .u8 1, .int .u8 1, .int .u8 0, .int .u8 0, .int .u8 0, .int .u8 0, .int .u8 0, .int .u8 2, .int .u8 2, .int .u8 0, .int .u8 36] 5) = W7 at f7 s7 q7 d7 c7 HB7 ⊢
 generalize (⟨W6.heap.size, 0, none⟩ : Addr) = A7 at c7 ⊢
 refine (show Calls _ _ _ _ _ from bytes_any W7 (some A7) 14 goodB c7 (by decide) goodB_good).mono ?_
 intro e W8 he
 rw [good_bytes] at he
 obtain ⟨v, rfl, hp, bel⟩ : ∃ v, e = .returned (.tuple #[v, .agg #[.int .i64 1, .int .i64 2], .nilIface]) ∧ IsPg W7.heap.size goodP v W8 ∧ Below W7.heap.size W7 W8 := he
 obtain ⟨B0, B1, B2, B3, B4, e0, e1, e2, e3, e4, rfl, -⟩ := hp.read
 have f8 := (bel.block _ (blk_lt f7)).trans f7
 have s8 := (bel.block _ (blk_lt s7)).trans s7
 have q8 := (bel.block _ (blk_lt q7)).trans q7
 have d8 := Kd.C_below d7 bel
 have HB8 := hid_ (HB7.out.trans (bel.mono HB7.out.size))
 clear f7 s7 q7 d7 c7 HB7 bel hp
 rw [show valPg B0 B1 B2 B3 B4 e0 e1 e2 e3 e4 goodP = .agg #[.slice B0 0 e0, .slice B1 0 e1, .slice B2 0 e2, .slice B3 0 e3, .slice B4 2 e4, .int .i64 1, .int .i64 0] from rfl]
 go_upto_region 6 with (fail)
 have bel := below_alloc (below_alloc (Below.refl W8.heap.size W8) (.cells #[.slice B0 0 e0, .slice B1 0 e1, .slice B2 0 e2, .slice B3 0 e3, .slice B4 2 e4, .int .i64 1, .int .i64 0] 28)) (.cells #[.int .i64 1, .int .i64 2] 31)
 have b9 := heap_alloc_new W8 (.cells #[.slice B0 0 e0, .slice B1 0 e1, .slice B2 0 e2, .slice B3 0 e3, .slice B4 2 e4, .int .i64 1, .int .i64 0] 28)
 have b9 := (heap_alloc_old _ (.cells #[.int .i64 1, .int .i64 2] 31) (blk_lt b9)).trans b9
 have t9 := heap_alloc_new (W8.alloc (.cells #[.slice B0 0 e0, .slice B1 0 e1, .slice B2 0 e2, .slice B3 0 e3, .slice B4 2 e4, .int .i64 1, .int .i64 0] 28)) (.cells #[.int .i64 1, .int .i64 2] 31)
 rw [World.size_alloc] at t9
 have f9 := (bel.block _ (blk_lt f8)).trans f8
 have s9 := (bel.block _ (blk_lt s8)).trans s8
 have q9 := (bel.block _ (blk_lt q8)).trans q8
 have d9 := Kd.C_below d8 bel
 have HB9 := hid_ (HB8.out.trans (bel.mono HB8.out.size))
 clear f8 s8 q8 d8 HB8 bel
 generalize (W8.alloc (.cells #[.slice B0 0 e0, .slice B1 0 e1, .slice B2 0 e2, .slice B3 0 e3, .slice B4 2 e4, .int .i64 1, .int .i64 0] 28)).alloc (.cells #[.int .i64 1, .int .i64 2] 31) = W9 at b9 t9 f9 s9 q9 d9 HB9 ⊢
 generalize W8.heap.size + 1 = Y9 at t9 ⊢
 generalize W8.heap.size = X9 at b9 ⊢
 obtain ⟨x0, x1, x2, x3, x4, x5, x6⟩ := cells7 q9
 go_wp2_with (fail)
 clear x0 x1 x2 x3 x4 x5 x6
 refine (show Calls _ _ _ _ _ from stacks_any W9 none none none none (some A1) 0 0 0 0 2 0 0 0 0 goodC 1 0 d9 (by decide) (by decide) (by decide) (by decide) (by decide) (by decide)).mono ?_
 intro e W10 he
 rw [good_audit] at he
 obtain ⟨tv, rfl, ht, bel⟩ := he
 obtain ⟨ad, c, A0, c0, a1, c1, rfl, y0, y1, y2, z0, z1⟩ := told_get ht
 have b10 := (bel.block _ (blk_lt b9)).trans b9
 have t10 := (bel.block _ (blk_lt t9)).trans t9
 have f10 := (bel.block _ (blk_lt f9)).trans f9
 have s10 := (bel.block _ (blk_lt s9)).trans s9
 have HB10 := hid_ (HB9.out.trans (bel.mono HB9.out.size))
 clear b9 t9 f9 s9 q9 d9 HB9 bel ht
 obtain ⟨x0, x1, x2, x3, x4, x5, x6⟩ := cells7 b10
 obtain ⟨x7, x8⟩ := cells2 t10
 obtain ⟨x9, x10⟩ := cells2 s10
 go_wp2_with (fail)
 clear x0 x1 x2 x3 x4 x5 x6 x7 x8 y0 y1 y2 z0 z1
 refine (show Calls _ _ _ _ _ from read_fault W10 F 218 3 (by decide) f10).mono ?_
 rintro e W11 ⟨rfl, bel⟩
 have e39 := eq39 W11
 go_wp2_with (fail)
 go_ret
 exact ⟨rfl, HB10.out.trans (bel.mono HB10.out.size)⟩
end Go.Proofs.Ytbnplhmmbnmagaa.D
namespace Go.Proofs.Ytbnplhmmbnmagaa.D
open Go.RowKit Go.Proofs.YtbnplhmmbnmagaaW.PrintWords Go.Proofs.YtbnplhmmbnmagaaW.PrintLast Go.Proofs.YtbnplhmmbnmagaaW.PrintMore Go.Proofs.Ytbnplhmmbnmagaa.All
set_option linter.unusedSimpArgs false
set_option linter.unusedVariables false
abbrev AR := Except (Int × Int) (List (List Int) × Int)
def errR {α : Type} : Except (Int × Int) α → Option (Int × Int)
  | .error f => some f
  | .ok _ => none
def mostR : AR → Int
  | .error _ => 0
  | .ok (_, m) => m
def stepsR (len : Nat) : AR → Int
  | .error _ => 0
  | .ok _ => len
def evIs (r : Option (Int × Int)) (ev : Value) (W : World) : Prop :=
  match r with
  | none => ev = .nilIface
  | some (i, n) => ∃ F, ev = .iface 95 (.pointer (some ⟨F, 0, none⟩)) ∧ W.heap[F]? = some (.cells #[.int .i64 n, .int .i64 i, .string ⟨#[]⟩, .nilIface] 98 (0, 0))
theorem evIs.below {r : Option (Int × Int)} {ev : Value} {W W2 : World} (h : evIs r ev W) (hb : Below W.heap.size W W2) : evIs r ev W2 := by
  cases r with
  | none => exact h
  | some f => obtain ⟨F, h1, h2⟩ := h; exact ⟨F, h1, (hb.block _ (blk_lt h2)).trans h2⟩
def codeR : Option (Int × Int) → Int
  | none => 0
  | some (_, n) => n
def atR : Option (Int × Int) → Int
  | none => 0
  | some (i, _) => i
def Num (r : Option (Int × Int)) : Prop := ∀ i n, r = some (i, n) → n ≠ 0
theorem read_any (r : Option (Int × Int)) (ev : Value) (w : World) (h : evIs r ev w) (hn : Num r) : Calls Try.prog 16 #[ev] w fun e w' => e = .returned (rdV (codeR r) (atR r)) ∧ Below w.heap.size w w' := by
  cases r with
  | none => obtain rfl := h; exact read_nil w
  | some f =>
    obtain ⟨i, n⟩ := f
    obtain ⟨F, rfl, hF⟩ := h
    exact read_fault w F n i (hn i n rfl) hF
theorem stepF_num {dep : Int} {r : S165} {x : S66} {s : St} {e : Int} (h : stepF dep r x s = .error e) : 214 ≤ e ∧ e ≤ 219 := by
 unfold stepF at h
 split at h
 ·
  injection h with h; omega
 split at h
 ·
  injection h with h; omega
 split at h
 ·
  rename_i e2 hp
  injection h with h
  subst h
  unfold putF at hp
  split at hp
  ·
   cases hp
  split at hp
  ·
   cases hp
  split at hp
  ·
   split at hp
   ·
    injection hp with hp; omega
   ·
    cases hp
  ·
   cases hp
 ·
  split at h
  ·
   injection h with h; omega
  split at h
  ·
   injection h with h; omega
  ·
   cases h
theorem runL_num (k : Wk) : ∀ (d i : Nat) (s : St) (M : List (Int × St)) (told : List (List Int)) (most : Int) (p n : Int), runL k d i s M told most = .error (p, n) → n ≠ 0
  | 0, i, s, M, told, most, p, n, h => by cases h
  | d + 1, i, s, M, told, most, p, n, h => by
    rw [runL] at h
    split at h
    · rename_i hf
      injection h with h; injection h with h1 h2
      subst h2; exact hf
    split at h
    · injection h with h; injection h with h1 h2; omega
    split at h
    · rename_i e he
      injection h with h; injection h with h1 h2
      have := stepF_num he
      omega
    · rename_i s2 he
      split at h
      · exact runL_num k d _ _ _ _ _ p n h
      split at h
      · cases h
      · exact runL_num k d _ _ _ _ _ p n h
theorem auditF_num {nT nN nS nM : Nat} {C : List S66} {dep loc : Int} : Num (errR (auditF nT nN nS nM C dep loc)) := by
 intro p n h
 by_cases hd : Declared nT nN nS nM C dep loc
 ·
  rw [auditF_bad hd] at h
  injection h with h; injection h with h1 h2; omega
 ·
  rw [auditF_ok hd] at h
  split at h
  ·
   injection h with h; injection h with h1 h2; omega
  ·
   cases hr : runF (K0 nT nN nS nM C dep loc) with
   | ok x => rw [hr] at h; cases h
   | error f =>
    rw [hr] at h
    injection h with h
    subst h
    exact runL_num _ _ _ _ _ _ _ _ _ hr
theorem auditP_num (g : Pg) : Num (errR (auditP g)) := auditF_num
theorem programF_num {bs : List Int} {k q : Int} (h : programF bs = .error (k, q)) : k ≠ 0 := by have := program_err bs k q h; omega
theorem InPg.lens {w : World} {A0 A1 A2 A3 A4 : Option Addr} {c0 c1 c2 c3 c4 : Nat} {g : Pg} (f : Fits g) : g.T.length ≤ 140737488355328 ∧ g.N.length ≤ 140737488355328 ∧ g.S.length ≤ 140737488355328 ∧ g.M.length ≤ 140737488355328 ∧ g.C.length ≤ 140737488355328 := by
  obtain ⟨h1, h2, h3, h4, h5, h6, h7⟩ := f
  omega
section
variable (w : World) (A0 A1 A2 A3 A4 : Option Addr) (c0 c1 c2 c3 c4 : Nat) (g : Pg)
theorem prog_u (h : InPg w A0 A1 A2 A3 A4 c0 c1 c2 c3 c4 g) (f : Fits g) :
    Calls Try.prog 11 #[valPg A0 A1 A2 A3 A4 c0 c1 c2 c3 c4 g] w fun e w' => ∃ ev, e = .returned (.tuple #[.agg #[.int .i64 (mostR (auditP g)), .int .i64 (stepsR g.C.length (auditP g))], ev]) ∧ evIs (errR (auditP g)) ev w' ∧ Below w.heap.size w w' := by
  obtain ⟨l0, l1, l2, l3, l4⟩ := InPg.lens (w := w) (A0 := A0) (A1 := A1) (A2 := A2) (A3 := A3) (A4 := A4) (c0 := c0) (c1 := c1) (c2 := c2) (c3 := c3) (c4 := c4) f
  refine (prog_any w A0 A1 A2 A3 A4 c0 c1 c2 c3 c4 g.T.length g.N.length g.S.length g.M.length g.C g.dep g.loc h.C h.lC l0 l1 l2 l3 l4).mono ?_
  intro e w' he
  change ProgEnd w g.C.length (auditP g) e w' at he
  cases hr : auditP g with
  | error x => obtain ⟨i, n⟩ := x; rw [hr] at he; obtain ⟨F, rfl, -, hF, hb⟩ := he; exact ⟨_, rfl, ⟨F, rfl, hF⟩, hb⟩
  | ok x => obtain ⟨t, m⟩ := x; rw [hr] at he; obtain ⟨rfl, hb⟩ := he; exact ⟨_, rfl, rfl, hb⟩
end
def Pg0 : Pg := ⟨[], [], [], [], [], 0, 0⟩
theorem isPg0 (base : Nat) (w : World) : IsPg base Pg0 zPg w := ⟨_, _, _, _, _, rfl, Kd.R_nil _ _ _ _ _, Kd.R_nil _ _ _ _ _, Kd.R_nil _ _ _ _ _, Kd.R_nil _ _ _ _ _, Kd.R_nil _ _ _ _ _⟩
theorem inPg0 (w : World) : InPg w none none none none none 0 0 0 0 0 Pg0 := ⟨Kd.C_nil _ _, Kd.C_nil _ _, Kd.C_nil _ _, Kd.C_nil _ _, Kd.C_nil _ _, Nat.le_refl _, Nat.le_refl _, Nat.le_refl _, Nat.le_refl _, Nat.le_refl _⟩
theorem fits0 : Fits Pg0 := ⟨by decide, by decide, by decide, by decide, by decide, fun x hx => (by cases hx), fun x hx => (by cases hx)⟩
abbrev BR := Except (Int × Int) (Pg × Int)
def pgR : BR → Pg
  | .error _ => Pg0
  | .ok (g, _) => g
def bmostR : BR → Int
  | .error _ => 0
  | .ok (_, m) => m
def bstepsR : BR → Int
  | .error _ => 0
  | .ok (g, _) => g.C.length
theorem bytes_u (w : World) (A : Option Addr) (c : Nat) (bs : List Int) (hC : Kd.C (Kd.int .u8) w A bs.length bs) (hc : bs.length ≤ c) (G : Good bs) :
    Calls Try.prog 18 #[.slice A bs.length c] w fun e w' => ∃ v ev, e = .returned (.tuple #[v, .agg #[.int .i64 (bmostR (bytesF bs)), .int .i64 (bstepsR (bytesF bs))], ev]) ∧ IsPg w.heap.size (pgR (bytesF bs)) v w' ∧ evIs (errR (bytesF bs)) ev w' ∧ Below w.heap.size w w' := by
  refine (bytes_any w A c bs hC hc G).mono ?_
  intro e w' he
  cases hr : bytesF bs with
  | error x => obtain ⟨i, n⟩ := x; rw [hr] at he; obtain ⟨F, rfl, -, hF, hb⟩ := he; exact ⟨_, _, rfl, isPg0 _ _, ⟨F, rfl, hF⟩, hb⟩
  | ok x => obtain ⟨g, m⟩ := x; rw [hr] at he; obtain ⟨v, rfl, hp, hb⟩ := he; exact ⟨_, _, rfl, hp, rfl, hb⟩
noncomputable def decP (bs : List Int) : Pg := match programF bs with | .ok (g, _) => g | .error _ => Pg0
noncomputable def decE (bs : List Int) : Option (Int × Int) := match programF bs with | .ok _ => none | .error (k, q) => some (q, k)
theorem decE_num (bs : List Int) : Num (decE bs) := by
  intro p n h
  unfold decE at h
  cases hp : programF bs with
  | error f => obtain ⟨k, q⟩ := f; rw [hp] at h; injection h with h; injection h with h1 h2; subst h2; exact programF_num hp
  | ok gq => rw [hp] at h; cases h
theorem decode_u (w : World) (A : Option Addr) (c : Nat) (bs : List Int) (hC : Kd.C (Kd.int .u8) w A bs.length bs) (hc : bs.length ≤ c) (G : Good bs) :
    Calls Try.prog 29 #[.slice A bs.length c] w fun e w' => ∃ v ev, e = .returned (.tuple #[v, ev]) ∧ IsPg w.heap.size (decP bs) v w' ∧ evIs (decE bs) ev w' ∧ Below w.heap.size w w' := by
  refine (decode_any w A c bs hC hc G).mono ?_
  intro e w' he
  unfold IsDec at he
  unfold decP decE
  cases hr : programF bs with
  | error x => obtain ⟨i, n⟩ := x; rw [hr] at he; obtain ⟨F, rfl, -, hF, hb⟩ := he; exact ⟨_, _, rfl, isPg0 _ _, ⟨F, rfl, hF⟩, hb⟩
  | ok x => obtain ⟨g, m⟩ := x; rw [hr] at he; obtain ⟨v, rfl, hp, hb⟩ := he; exact ⟨_, _, rfl, hp, rfl, hb⟩
end Go.Proofs.Ytbnplhmmbnmagaa.D
namespace Go.Proofs.Ytbnplhmmbnmagaa.D
open Go.RowKit Go.Proofs.YtbnplhmmbnmagaaW.PrintWords Go.Proofs.YtbnplhmmbnmagaaW.PrintLast Go.Proofs.YtbnplhmmbnmagaaW.PrintMore Go.Proofs.Ytbnplhmmbnmagaa.All
set_option linter.unusedSimpArgs false
set_option linter.unusedVariables false
structure StL (w W : World) (X : Nat) (A0 A1 A2 A3 A4 : Option Addr) (c0 c1 c2 c3 c4 : Nat) (g : Pg) : Prop where
  below : Below w.heap.size w W
  box : W.heap[X]? = some (.cells #[.slice A0 g.T.length c0, .slice A1 g.N.length c1, .slice A2 g.S.length c2, .slice A3 g.M.length c3, .slice A4 g.C.length c4, .int .i64 g.dep, .int .i64 g.loc] 28 (0, 0))
  pg : InPg W A0 A1 A2 A3 A4 c0 c1 c2 c3 c4 g
theorem StL.next {w W W2 : World} {X : Nat} {A0 A1 A2 A3 A4 : Option Addr} {c0 c1 c2 c3 c4 : Nat} {g : Pg} (h : StL w W X A0 A1 A2 A3 A4 c0 c1 c2 c3 c4 g) (hb : Below W.heap.size W W2) : StL w W2 X A0 A1 A2 A3 A4 c0 c1 c2 c3 c4 g :=
  ⟨h.below.trans (hb.mono h.below.size), (hb.block _ (blk_lt h.box)).trans h.box, h.pg.below hb⟩
theorem StL.start (w : World) {A0 A1 A2 A3 A4 : Option Addr} {c0 c1 c2 c3 c4 : Nat} {g : Pg} (h : InPg w A0 A1 A2 A3 A4 c0 c1 c2 c3 c4 g) : StL w (w.alloc (.cells #[.slice A0 g.T.length c0, .slice A1 g.N.length c1, .slice A2 g.S.length c2, .slice A3 g.M.length c3, .slice A4 g.C.length c4, .int .i64 g.dep, .int .i64 g.loc] 28)) w.heap.size A0 A1 A2 A3 A4 c0 c1 c2 c3 c4 g :=
  ⟨below_alloc (Below.refl _ _) _, heap_alloc_new _ _, h.below (below_alloc (Below.refl _ _) _)⟩
theorem enc_one {w : World} {g : Pg} {e : Ending} {w' : World} (h : IsEnc w g e w') : ∃ v n, e = .returned (.tuple #[v, .int .i64 n]) ∧ (formedB g = true → n = 0 ∧ (Kd.int .u8).R 5 w' w.heap.size (fun _ => True) v (encP g)) ∧ (formedB g = false → n = 207) ∧ Below w.heap.size w w' := by
  obtain ⟨he, hb⟩ := h
  cases hf : formedB g with
  | true => rw [if_pos hf] at he; obtain ⟨v, rfl, hr⟩ := he; exact ⟨v, 0, rfl, fun _ => ⟨rfl, hr⟩, fun h => (by cases h), hb⟩
  | false => rw [if_neg (by rw [hf]; decide)] at he; exact ⟨_, 207, he, fun h => (by cases h), fun _ => rfl, hb⟩
theorem enc_bytes {g : Pg} (hf : formedB g = true) : bytesF (encP g) = match auditP g with | .error x => .error x | .ok (_, m) => .ok (g, m) := by
  cases ha : auditP g with
  | error x => exact bytesF_bad (program_rt g hf) ha
  | ok x => obtain ⟨t, m⟩ := x; exact bytesF_ok (program_rt g hf) ha
theorem enc_err {g : Pg} (hf : formedB g = true) : errR (bytesF (encP g)) = errR (auditP g) := by rw [enc_bytes hf]; cases auditP g <;> rfl
theorem enc_most {g : Pg} (hf : formedB g = true) : bmostR (bytesF (encP g)) = mostR (auditP g) := by rw [enc_bytes hf]; cases auditP g <;> rfl
theorem enc_steps {g : Pg} (hf : formedB g = true) : bstepsR (bytesF (encP g)) = stepsR g.C.length (auditP g) := by rw [enc_bytes hf]; cases auditP g <;> rfl
theorem enc_pg {g : Pg} (hf : formedB g = true) : pgR (bytesF (encP g)) = if errR (auditP g) = none then g else Pg0 := by rw [enc_bytes hf]; cases auditP g <;> rfl
theorem two_allocs (W : World) (a b : Obj) : ((W.alloc a).alloc b).heap[W.heap.size]? = some a ∧ ((W.alloc a).alloc b).heap[W.heap.size + 1]? = some b ∧ Below W.heap.size W ((W.alloc a).alloc b) := by
  have h := heap_alloc_new (W.alloc a) b
  rw [World.size_alloc] at h
  exact ⟨(heap_alloc_old _ _ (blk_lt (heap_alloc_new W a))).trans (heap_alloc_new W a), h, below_alloc (below_alloc (Below.refl _ _) _) _⟩
theorem own_empty5 (W : World) : (Kd.int .u8).R 5 (W.alloc (.cells #[] 5)) W.heap.size (fun k => W.heap.size ≤ k) (.slice (some ⟨W.heap.size, 0, none⟩) 0 0) [] := by
  have h := World.ownsRow_lit (base := W.heap.size) (e := 5) (size := 1) W #[] 0 (Nat.le_refl _) (by simp [maxLen]) (by simp)
  exact own_ints (xs := []) (by simpa using h) (fun k hk => hk)
theorem dec_bytes {bs : List Int} {i n : Int} (h : decE bs = some (i, n)) : bytesF bs = .error (i, n) := by
  unfold decE at h
  cases hp : programF bs with
  | ok x => rw [hp] at h; cases h
  | error x => obtain ⟨k, q⟩ := x; rw [hp] at h; injection h with h; injection h with h1 h2; subst h1; subst h2; exact bytesF_err hp
theorem blk_next {W W2 : World} {k : Nat} {o : Obj} (h : W.heap[k]? = some o) (hb : Below W.heap.size W W2) : W2.heap[k]? = some o := (hb.block _ (blk_lt h)).trans h
set_option maxHeartbeats 4000000 in
set_option maxRecDepth 100000 in
theorem agrees_any (w : World) (A0 A1 A2 A3 A4 : Option Addr) (c0 c1 c2 c3 c4 : Nat) (g : Pg) (hI : InPg w A0 A1 A2 A3 A4 c0 c1 c2 c3 c4 g) (fb : FitsB g) (Ab : Option Addr) (cb : Nat) (bs : List Int) (hB : Kd.C (Kd.int .u8) w Ab bs.length bs) (hc : bs.length ≤ cb) (G : Good bs) (lb : bs.length ≤ 140737488351232) :
 Calls Try.prog 9 #[valPg A0 A1 A2 A3 A4 c0 c1 c2 c3 c4 g, .slice Ab bs.length cb] w fun e w' => e = .returned (.bool true) ∧ Below w.heap.size w w' := by
 have f := fb.fits
 have st := StL.start w hI
 have hB0 := Kd.C_below hB (below_alloc (Below.refl w.heap.size w) (.cells #[.slice A0 g.T.length c0, .slice A1 g.N.length c1, .slice A2 g.S.length c2, .slice A3 g.M.length c3, .slice A4 g.C.length c4, .int .i64 g.dep, .int .i64 g.loc] 28))
 clear hI hB
 unfold valPg
 go_enter Try.func9, Try.ntmps9
 go_upto_region 1 with (fail)
 generalize w.alloc (.cells #[.slice A0 g.T.length c0, .slice A1 g.N.length c1, .slice A2 g.S.length c2, .slice A3 g.M.length c3, .slice A4 g.C.length c4, .int .i64 g.dep, .int .i64 g.loc] 28) = W0 at st hB0 ⊢
 have ST0 := hid_ st
 clear st
 go_wp2_with (fail)
 refine (wakes_any _).mono ?_
 rintro e W1 ⟨rfl, bel⟩
 have ST1 := hid_ (ST0.out.next bel)
 have hB1 := Kd.C_below hB0 bel
 clear ST0 bel hB0
 go_upto_region 3 with (fail)
 obtain ⟨x0, x1, x2, x3, x4, x5, x6⟩ := cells7 ST1.out.box
 go_wp2_with (fail)
 clear x0 x1 x2 x3 x4 x5 x6
 refine (show Calls _ _ _ _ _ from copy_any W1 A0 A1 A2 A3 A4 c0 c1 c2 c3 c4 g ST1.out.pg fb).mono ?_
 rintro e W2 ⟨B0, B1, B2, B3, B4, e0, e1, e2, e3, e4, rfl, hI2, bel⟩
 have ST2 := hid_ (ST1.out.next bel)
 have hB2 := Kd.C_below hB1 bel
 clear ST1 bel hB1
 go_wp2_with (fail)
 refine (show Calls _ _ _ _ _ from prog_u W2 B0 B1 B2 B3 B4 e0 e1 e2 e3 e4 g hI2 f).mono ?_
 rintro e W3 ⟨ev, rfl, hev, bel⟩
 have ST3 := hid_ (ST2.out.next bel)
 have hB3 := Kd.C_below hB2 bel
 clear ST2 bel hB2 hI2
 generalize hm : mostR (auditP g) = most
 generalize hs : stepsR g.C.length (auditP g) = steps
 have HM := hid_ hm
 have HS := hid_ hs
 clear hm hs
 go_upto_region 4 with (fail)
 have bel := below_alloc (Below.refl W3.heap.size W3) (.cells #[.int .i64 most, .int .i64 steps] 31)
 have s4 := heap_alloc_new W3 (.cells #[.int .i64 most, .int .i64 steps] 31)
 have ST4 := hid_ (ST3.out.next bel)
 have hB4 := Kd.C_below hB3 bel
 have hev4 := hev.below bel
 clear ST3 bel hB3 hev
 generalize W3.alloc (.cells #[.int .i64 most, .int .i64 steps] 31) = W4 at s4 ST4 hB4 hev4 ⊢
 generalize W3.heap.size = X4 at s4 ⊢
 obtain ⟨x0, x1, x2, x3, x4, x5, x6⟩ := cells7 ST4.out.box
 go_wp2_with (fail)
 clear x0 x1 x2 x3 x4 x5 x6
 refine (show Calls _ _ _ _ _ from copy_any W4 A0 A1 A2 A3 A4 c0 c1 c2 c3 c4 g ST4.out.pg fb).mono ?_
 rintro e W5 ⟨D0, D1, D2, D3, D4, d0, d1, d2, d3, d4, rfl, hI5, bel⟩
 have ST5 := hid_ (ST4.out.next bel)
 have hB5 := Kd.C_below hB4 bel
 have hev5 := hev4.below bel
 have s5 := blk_next s4 bel
 clear ST4 bel hB4 hev4 s4
 go_wp2_with (fail)
 refine (show Calls _ _ _ _ _ from encode_any W5 D0 D1 D2 D3 D4 d0 d1 d2 d3 d4 g hI5 f).mono ?_
 intro e W6 he
 obtain ⟨v6, n6, rfl, h6, h6', bel⟩ := enc_one he
 have ST6 := hid_ (ST5.out.next bel)
 have hB6 := Kd.C_below hB5 bel
 have hev6 := hev5.below bel
 have s6 := blk_next s5 bel
 clear ST5 bel hB5 hev5 s5 hI5 he
 go_upto_if 32 with (fail)
 go_cut [9, 10, 11] (fun s9 s10 s11 wx => Below W6.heap.size W6 wx)
 case first =>
  cases hf : formedB g with
  | false =>
   obtain rfl := h6' hf
   clear h6 h6'
   go_wp2_with (fail)
   go_meet
   exact Below.refl _ _
  | true =>
   obtain ⟨rfl, hr⟩ := h6 hf
   obtain ⟨A6, c6, rfl, k6, r6⟩ := Kd.R_reads hr
   clear h6 h6' hr
   go_wp2_with (fail)
   refine (show Calls _ _ _ _ _ from bytes_u W6 A6 c6 (encP g) r6 k6 (encP_good g hf)).mono ?_
   rintro e W7 ⟨v7, ev7, rfl, hp7, he7, bel⟩
   rw [enc_most hf, enc_steps hf, enc_err hf, enc_pg hf, HM.out, HS.out] at *
   have ST7 := hid_ (ST6.out.next bel)
   have hB7 := Kd.C_below hB6 bel
   have hev7 := hev6.below bel
   have s7 := blk_next s6 bel
   have hb7 := bel
   clear ST6 hB6 hev6 s6 r6 bel
   obtain ⟨E0, E1, E2, E3, E4, h0, h1, h2, h3, h4, rfl, hI7⟩ := hp7.read
   clear hp7
   generalize hq : (if errR (auditP g) = none then g else Pg0) = q at hI7 ⊢
   have HQ := hid_ hq
   clear hq
   unfold valPg
   go_upto_region 7 with (fail)
   obtain ⟨p8, t8, bel⟩ := two_allocs W7 (.cells #[.slice E0 q.T.length h0, .slice E1 q.N.length h1, .slice E2 q.S.length h2, .slice E3 q.M.length h3, .slice E4 q.C.length h4, .int .i64 q.dep, .int .i64 q.loc] 28) (.cells #[.int .i64 most, .int .i64 steps] 31)
   have ST8 := hid_ (ST7.out.next bel)
   have hev8 := hev7.below bel
   have he8 := he7.below bel
   have s8 := blk_next s7 bel
   have hI8 := hI7.below bel
   have hb8 := hb7.trans (bel.mono hb7.size)
   clear ST7 hB7 hev7 he7 s7 hb7 hI7 bel
   generalize (W7.alloc (.cells #[.slice E0 q.T.length h0, .slice E1 q.N.length h1, .slice E2 q.S.length h2, .slice E3 q.M.length h3, .slice E4 q.C.length h4, .int .i64 q.dep, .int .i64 q.loc] 28)).alloc (.cells #[.int .i64 most, .int .i64 steps] 31) = W8 at p8 t8 ST8 hev8 he8 s8 hI8 hb8 ⊢
   generalize W7.heap.size + 1 = T9 at t8 ⊢
   generalize W7.heap.size = P9 at p8 ⊢
   obtain ⟨x0, x1⟩ := cells2 s8
   obtain ⟨x2, x3⟩ := cells2 t8
   clear s8 t8
   cases hE : errR (auditP g) with
   | none =>
    have hq := HQ.out
    rw [if_pos hE] at hq
    subst hq
    rw [hE] at hev8 he8
    obtain rfl := hev8
    obtain rfl := he8
    go_wp2_with (fail)
    clear x0 x1 x2 x3
    refine (show Calls _ _ _ _ _ from read_any none .nilIface W8 rfl (fun _ _ h => by cases h)).mono ?_
    rintro e W9 ⟨rfl, bel⟩
    have ST9 := hid_ (ST8.out.next bel)
    have p9 := blk_next p8 bel
    have hI9 := hI8.below bel
    have hb9 := hb8.trans (bel.mono hb8.size)
    clear ST8 p8 hI8 hb8 bel
    go_wp2_with (fail)
    refine (show Calls _ _ _ _ _ from read_any none .nilIface W9 rfl (fun _ _ h => by cases h)).mono ?_
    rintro e WA ⟨rfl, bel⟩
    have STA := hid_ (ST9.out.next bel)
    have pA := blk_next p9 bel
    have hIA := hI9.below bel
    have hbA := hb9.trans (bel.mono hb9.size)
    clear ST9 p9 hI9 hb9 bel
    have e39 := eq39 WA
    obtain ⟨x0, x1, x2, x3, x4, x5, x6⟩ := cells7 STA.out.box
    obtain ⟨y0, y1, y2, y3, y4, y5, y6⟩ := cells7 pA
    go_wp2_with (fail)
    clear x0 x1 x2 x3 x4 x5 x6 y0 y1 y2 y3 y4 y5 y6 e39
    refine (show Calls _ _ _ _ _ from same_any WA A0 A1 A2 A3 A4 c0 c1 c2 c3 c4 g E0 E1 E2 E3 E4 h0 h1 h2 h3 h4 g hIA STA.out.pg f f).mono ?_
    rintro e WB ⟨⟨r, rfl, hr⟩, bel⟩
    obtain rfl : r = true := hr.2 rfl
    go_wp2_with (fail)
    go_meet
    exact hbA.trans (bel.mono hbA.size)
   | some x =>
    obtain ⟨xi, xn⟩ := x
    have hq := HQ.out
    rw [if_neg (by rw [hE]; exact fun h => by cases h)] at hq
    subst hq
    rw [hE] at hev8 he8
    have hxn := auditP_num g xi xn hE
    obtain ⟨F, rfl, hF⟩ := hev8
    obtain ⟨F2, rfl, hF2⟩ := he8
    go_wp2_with (fail)
    clear x0 x1 x2 x3
    refine (show Calls _ _ _ _ _ from read_fault W8 F xn xi hxn hF).mono ?_
    rintro e W9 ⟨rfl, bel⟩
    have ST9 := hid_ (ST8.out.next bel)
    have p9 := blk_next p8 bel
    have hF9 := blk_next hF2 bel
    have hI9 := hI8.below bel
    have hb9 := hb8.trans (bel.mono hb8.size)
    clear ST8 p8 hI8 hb8 bel hF hF2
    go_wp2_with (fail)
    refine (show Calls _ _ _ _ _ from read_fault W9 F2 xn xi hxn hF9).mono ?_
    rintro e WA ⟨rfl, bel⟩
    have STA := hid_ (ST9.out.next bel)
    have pA := blk_next p9 bel
    have hIA := hI9.below bel
    have hbA := hb9.trans (bel.mono hb9.size)
    clear ST9 p9 hI9 hb9 bel hF9
    have e39 := eq39 WA
    obtain ⟨y0, y1, y2, y3, y4, y5, y6⟩ := cells7 pA
    go_wp2_with (fail)
    clear y0 y1 y2 y3 y4 y5 y6 e39
    refine (show Calls _ _ _ _ _ from same_any WA E0 E1 E2 E3 E4 h0 h1 h2 h3 h4 Pg0 none none none none none 0 0 0 0 0 Pg0 (inPg0 WA) hIA fits0 fits0).mono ?_
    rintro e WB ⟨⟨r, rfl, hr⟩, bel⟩
    obtain rfl : r = true := hr.2 rfl
    go_wp2_with (fail)
    go_meet
    exact hbA.trans (bel.mono hbA.size)
 case rest =>
  have hBel := ST6.out.below.trans (hcut.mono ST6.out.below.size)
  have hBc := Kd.C_below hB6 hcut
  have HBEL := hid_ hBel
  have hlen := lb
  clear ST6 hB6 hev6 s6 hcut hBel h6 h6'
  have hBd := Kd.C_below hBc (below_alloc (Below.refl wc.heap.size wc) (.cells #[] 5))
  go_wp2_with ((with_reducible refine gate_builtin (b := .append) (xs := #[.tmp 70, .tmp 71]) rfl ?_); at_builtin; refine Kd.R_append_rows (Kd.int .u8) (w0 := wc) wc.heap.size rfl (.tmp 70) (.tmp 71) 53 5 (.int .u8 0) 1 rfl Try.underlying53 info5 rfl (by decide) (by omega) _ [] bs Ab bs.length cb (fun k => wc.heap.size ≤ k) (fun _ => False) rfl rfl (own_empty5 wc) hBd (fun _ _ h => h) (fun _ hk => hk.elim) (fun k hk => by simp at hk; omega) (below_alloc (Below.refl _ _) _) (by simp) (by simp only [List.length_nil]; omega) ?_; intro v3 w3 hr3 hb3 hg3 _)
  obtain ⟨A3, c3, rfl, k3, r3⟩ := Kd.R_reads (show (Kd.int .u8).R 5 w3 wc.heap.size (fun k => wc.heap.size ≤ k) v3 bs from hr3)
  have hBe := Kd.C_below hBc hb3
  have HBE := hid_ (HBEL.out.trans (hb3.mono HBEL.out.size))
  clear hBc hBd hr3 hg3 hb3 HBEL
  refine (show Calls _ _ _ _ _ from decode_u w3 A3 c3 bs r3 k3 G).mono ?_
  rintro e W4 ⟨v4, ev4, rfl, hp4, hev4, bel⟩
  have hBf := Kd.C_below hBe bel
  have HBF := hid_ (HBE.out.trans (bel.mono HBE.out.size))
  clear hBe HBE bel r3
  obtain ⟨E0, E1, E2, E3, E4, h0, h1, h2, h3, h4, rfl, -⟩ := hp4.read
  clear hp4
  generalize decP bs = q
  unfold valPg
  go_upto_region 10 with (fail)
  have bel := below_alloc (Below.refl W4.heap.size W4) (.cells #[.slice E0 q.T.length h0, .slice E1 q.N.length h1, .slice E2 q.S.length h2, .slice E3 q.M.length h3, .slice E4 q.C.length h4, .int .i64 q.dep, .int .i64 q.loc] 28)
  have hBg := Kd.C_below hBf bel
  have hev5 := hev4.below bel
  have HBG := hid_ (HBF.out.trans (bel.mono HBF.out.size))
  clear hBf hev4 HBF bel
  generalize W4.alloc (.cells #[.slice E0 q.T.length h0, .slice E1 q.N.length h1, .slice E2 q.S.length h2, .slice E3 q.M.length h3, .slice E4 q.C.length h4, .int .i64 q.dep, .int .i64 q.loc] 28) = W5 at hBg hev5 HBG ⊢
  generalize W4.heap.size = X12
  cases hE : decE bs with
  | none =>
   rw [hE] at hev5
   obtain rfl := hev5
   go_wp2_with (fail)
   go_ret
   exact ⟨rfl, HBG.out⟩
  | some x =>
   obtain ⟨xi, xn⟩ := x
   rw [hE] at hev5
   have hxn := decE_num bs xi xn hE
   obtain ⟨F, rfl, hF⟩ := hev5
   have hBh := Kd.C_below hBg (below_alloc (Below.refl W5.heap.size W5) (.cells #[] 5))
   go_wp2_with ((with_reducible refine gate_builtin (b := .append) (xs := #[.tmp 79, .tmp 80]) rfl ?_); at_builtin; refine Kd.R_append_rows (Kd.int .u8) (w0 := W5) W5.heap.size rfl (.tmp 79) (.tmp 80) 53 5 (.int .u8 0) 1 rfl Try.underlying53 info5 rfl (by decide) (by omega) _ [] bs Ab bs.length cb (fun k => W5.heap.size ≤ k) (fun _ => False) rfl rfl (own_empty5 W5) hBh (fun _ _ h => h) (fun _ hk => hk.elim) (fun k hk => by simp at hk; omega) (below_alloc (Below.refl _ _) _) (by simp) (by simp only [List.length_nil]; omega) ?_; intro v6 w6 hr6 hb6 hg6 _)
   obtain ⟨A7, c7, rfl, k7, r7⟩ := Kd.R_reads (show (Kd.int .u8).R 5 w6 W5.heap.size (fun k => W5.heap.size ≤ k) v6 bs from hr6)
   have HBH := hid_ (HBG.out.trans (hb6.mono HBG.out.size))
   have hF6 := blk_next hF hb6
   clear hBg hBh hr6 hg6 hb6 HBG hF
   refine (show Calls _ _ _ _ _ from bytes_u w6 A7 c7 bs r7 k7 G).mono ?_
   rw [dec_bytes hE]
   rintro e W7 ⟨v7, ev7, rfl, hp7, hev7, bel⟩
   obtain ⟨F2, rfl, hF2⟩ : ∃ F, ev7 = .iface 95 (.pointer (some ⟨F, 0, none⟩)) ∧ W7.heap[F]? = some (.cells #[.int .i64 xn, .int .i64 xi, .string ⟨#[]⟩, .nilIface] 98 (0, 0)) := hev7
   have hF7 := blk_next hF6 bel
   have HBI := hid_ (HBH.out.trans (bel.mono HBH.out.size))
   clear hF6 bel HBH r7
   obtain ⟨G0, G1, G2, G3, G4, i0, i1, i2, i3, i4, rfl, hI7⟩ := hp7.read
   clear hp7
   rw [show pgR (.error (xi, xn)) = Pg0 from rfl] at hI7 ⊢
   rw [show bmostR (.error (xi, xn)) = 0 from rfl, show bstepsR (.error (xi, xn)) = 0 from rfl]
   rw [show valPg G0 G1 G2 G3 G4 i0 i1 i2 i3 i4 Pg0 = .agg #[.slice G0 0 i0, .slice G1 0 i1, .slice G2 0 i2, .slice G3 0 i3, .slice G4 0 i4, .int .i64 0, .int .i64 0] from rfl]
   go_upto_region 13 with (fail)
   obtain ⟨p8, t8, bel⟩ := two_allocs W7 (.cells #[.slice G0 0 i0, .slice G1 0 i1, .slice G2 0 i2, .slice G3 0 i3, .slice G4 0 i4, .int .i64 0, .int .i64 0] 28) (.cells #[.int .i64 0, .int .i64 0] 31)
   have hF8 := blk_next hF7 bel
   have hG8 := blk_next hF2 bel
   have hI8 := hI7.below bel
   have HBJ := hid_ (HBI.out.trans (bel.mono HBI.out.size))
   clear hF7 hF2 hI7 HBI bel
   generalize (W7.alloc (.cells #[.slice G0 0 i0, .slice G1 0 i1, .slice G2 0 i2, .slice G3 0 i3, .slice G4 0 i4, .int .i64 0, .int .i64 0] 28)).alloc (.cells #[.int .i64 0, .int .i64 0] 31) = W8 at p8 t8 hF8 hG8 hI8 HBJ ⊢
   generalize W7.heap.size + 1 = T9 at t8 ⊢
   generalize W7.heap.size = P9 at p8 ⊢
   obtain ⟨x0, x1, x2, x3, x4, x5, x6⟩ := cells7 p8
   go_wp2_with (fail)
   clear x0 x1 x2 x3 x4 x5 x6 p8
   refine (show Calls _ _ _ _ _ from same_any W8 G0 G1 G2 G3 G4 i0 i1 i2 i3 i4 Pg0 none none none none none 0 0 0 0 0 Pg0 (inPg0 W8) hI8 fits0 fits0).mono ?_
   rintro e W9 ⟨⟨r, rfl, hr⟩, bel⟩
   obtain rfl : r = true := hr.2 rfl
   have hF9 := blk_next hF8 bel
   have hG9 := blk_next hG8 bel
   have t9 := blk_next t8 bel
   have HBK := hid_ (HBJ.out.trans (bel.mono HBJ.out.size))
   clear hF8 hG8 t8 HBJ bel hI8 hr
   obtain ⟨x0, x1⟩ := cells2 t9
   go_wp2_with (fail)
   clear x0 x1 t9
   refine (show Calls _ _ _ _ _ from read_fault W9 F2 xn xi hxn hG9).mono ?_
   rintro e WA ⟨rfl, bel⟩
   have hFA := blk_next hF9 bel
   have HBL := hid_ (HBK.out.trans (bel.mono HBK.out.size))
   clear hF9 hG9 HBK bel
   go_wp2_with (fail)
   refine (show Calls _ _ _ _ _ from read_fault WA F xn xi hxn hFA).mono ?_
   rintro e WB ⟨rfl, bel⟩
   have HBM := hid_ (HBL.out.trans (bel.mono HBL.out.size))
   clear hFA HBL bel
   have e39 := eq39 WB
   go_wp2_with (fail)
   go_ret
   exact ⟨rfl, HBM.out⟩
end Go.Proofs.Ytbnplhmmbnmagaa.D
namespace Go.Proofs.Ytbnplhmmbnmagaa.D
open Go.RowKit Go.Proofs.YtbnplhmmbnmagaaW.PrintWords Go.Proofs.YtbnplhmmbnmagaaW.PrintLast Go.Proofs.YtbnplhmmbnmagaaW.PrintMore Go.Proofs.Ytbnplhmmbnmagaa.All
set_option linter.unusedVariables false
noncomputable def berthlaw21_AuditAgrees.f (T : List ByteArray) (N : List Int) (S : List (List ByteArray)) (M : List (List Int)) (C : List S66) (d l : Int) (b : List Int) : Option Bool := @ite _ (FitsB ⟨T, N, S, M, C, d, l⟩ ∧ Good b ∧ b.length ≤ 140737488351232) (Classical.propDecidable _) (some true) none
theorem berthlaw21_AuditAgrees.calls (A0 : Option Addr) (c0 : Nat) (T : List ByteArray) (A1 : Option Addr) (c1 : Nat) (N : List Int) (A2 : Option Addr) (c2 : Nat) (S : List (List ByteArray)) (A3 : Option Addr) (c3 : Nat) (M : List (List Int)) (A4 : Option Addr) (c4 : Nat) (C : List S66) (d l : Int) (B : Option Addr) (cb : Nat) (b : List Int) (r : Bool) (w : World)
 (hT : Kd.C Kd.string w A0 T.length T) (lT : T.length ≤ c0) (hN : Kd.C (Kd.int .i64) w A1 N.length N) (lN : N.length ≤ c1) (hS : Kd.C (Kd.slice 9 Kd.string) w A2 S.length S) (lS : S.length ≤ c2) (hM : Kd.C (Kd.slice 3 (Kd.int .i64)) w A3 M.length M) (lM : M.length ≤ c3) (hC : Kd.C k66 w A4 C.length C) (lC : C.length ≤ c4) (hB : Kd.C (Kd.int .u8) w B b.length b) (lB : b.length ≤ cb)
 (h : berthlaw21_AuditAgrees.f T N S M C d l b = some r) :
 Calls Try.prog 9 #[.agg #[.slice A0 T.length c0, .slice A1 N.length c1, .slice A2 S.length c2, .slice A3 M.length c3, .slice A4 C.length c4, .int .i64 d, .int .i64 l], .slice B b.length cb] w fun e w' => e = .returned (.bool r) ∧ Below w.heap.size w w' := by
 unfold berthlaw21_AuditAgrees.f at h
 split at h
 ·
  next f =>
  obtain ⟨f1, f2, f3⟩ := f
  obtain rfl := Option.some.inj h
  exact agrees_any w A0 A1 A2 A3 A4 c0 c1 c2 c3 c4 ⟨T, N, S, M, C, d, l⟩ ⟨hT, hN, hS, hM, hC, lT, lN, lS, lM, lC⟩ f1 B cb b hB lB f2 f3
 ·
  cases h
end Go.Proofs.Ytbnplhmmbnmagaa.D
