/- formed: its walk. -/
import Derived.Test.YtlocnfkkfpfpfaazCDm9
import Derived.Test.YtlocnfkkfpfpfaazCDm10
namespace Go.Proofs.Ytlocnfkkfpfpfaa.D
open Go.RowKit Go.Proofs.YtlocnfkkfpfpfaaW.PrintWords Go.Proofs.YtlocnfkkfpfpfaaW.PrintLast Go.Proofs.YtlocnfkkfpfpfaaW.PrintMore Go.Proofs.Ytlocnfkkfpfpfaa.Six
set_option linter.unusedSimpArgs false
set_option linter.unusedVariables false
def opOK (b : Bool) (n : Int) : Bool := if b = true then decide (0 ≤ n ∧ n ≤ 65535) else decide (n = 0)
def instrOK (x : S74) : Bool := decide (1 ≤ x.f0 ∧ x.f0 ≤ 36) && (opOK (usesV x.f0).1 x.f1 && (opOK (usesV x.f0).2.1 x.f2 && opOK (usesV x.f0).2.2 x.f3))
def formedB (g : Pg) : Bool := decide (g.T.length + g.N.length + g.S.length + g.M.length ≤ 4096) && (decide (g.C.length ≤ 32768) && (decide (0 ≤ g.dep ∧ g.dep ≤ 128 ∧ 0 ≤ g.loc ∧ g.loc ≤ 1024) && (risesB cmpS okS none g.T && (risesB cmpI okI none g.N && (risesB (cmpL cmpS) okSS none g.S && (risesB (cmpL cmpI) okII none g.M && g.C.all instrOK))))))
structure InPg (w : World) (A0 A1 A2 A3 A4 : Option Addr) (c0 c1 c2 c3 c4 : Nat) (g : Pg) : Prop where
  T : Kd.string.C w A0 g.T.length g.T
  N : (Kd.int .i64).C w A1 g.N.length g.N
  S : (Kd.slice 9 Kd.string).C w A2 g.S.length g.S
  M : (Kd.slice 3 (Kd.int .i64)).C w A3 g.M.length g.M
  C : k74.C w A4 g.C.length g.C
  lT : g.T.length ≤ c0
  lN : g.N.length ≤ c1
  lS : g.S.length ≤ c2
  lM : g.M.length ≤ c3
  lC : g.C.length ≤ c4
structure Fits (g : Pg) : Prop where
  T : g.T.length ≤ 140737488351232
  N : g.N.length ≤ 140737488351232
  S : g.S.length ≤ 140737488351232
  M : g.M.length ≤ 140737488351232
  C : g.C.length ≤ 140737488351232
  SS : ∀ x ∈ g.S, x.length ≤ 140737488351232
  MM : ∀ x ∈ g.M, x.length ≤ 140737488351232
theorem InPg.below {w W : World} {A0 A1 A2 A3 A4 : Option Addr} {c0 c1 c2 c3 c4 : Nat} {g : Pg} (h : InPg w A0 A1 A2 A3 A4 c0 c1 c2 c3 c4 g) (hb : Below w.heap.size w W) : InPg W A0 A1 A2 A3 A4 c0 c1 c2 c3 c4 g :=
  ⟨Kd.C_below h.T hb, Kd.C_below h.N hb, Kd.C_below h.S hb, Kd.C_below h.M hb, Kd.C_below h.C hb, h.lT, h.lN, h.lS, h.lM, h.lC⟩
def valPg (A0 A1 A2 A3 A4 : Option Addr) (c0 c1 c2 c3 c4 : Nat) (g : Pg) : Value :=
  .agg #[.slice A0 g.T.length c0, .slice A1 g.N.length c1, .slice A2 g.S.length c2, .slice A3 g.M.length c3, .slice A4 g.C.length c4, .int .i64 g.dep, .int .i64 g.loc]
section
variable {w : World} {A0 A1 A2 A3 A4 : Option Addr} {c0 c1 c2 c3 c4 : Nat} {g : Pg}
theorem r53 (h : InPg w A0 A1 A2 A3 A4 c0 c1 c2 c3 c4 g) : Calls Try.prog 53 #[.slice A0 g.T.length c0, .func (.func 54) #[] #[], .func (.func 55) #[] #[]] w fun e w' => e = .returned (.bool (risesB cmpS okS none g.T)) ∧ Drawn0 w w' :=
  code_rises_string_53.calls (g.T.length + 1) A0 c0 g.T _ w h.T h.lT (rises53_l g.T h.T.2.1 (g.T.length + 1) 0 (by omega) (by omega))
theorem r57 (h : InPg w A0 A1 A2 A3 A4 c0 c1 c2 c3 c4 g) : Calls Try.prog 57 #[.slice A1 g.N.length c1, .func (.func 58) #[] #[], .func (.func 59) #[] #[]] w fun e w' => e = .returned (.bool (risesB cmpI okI none g.N)) ∧ Drawn0 w w' :=
  code_rises_int_57.calls (g.N.length + 1) A1 c1 g.N _ w h.N h.lN (rises57_l g.N h.N.2.1 (g.N.length + 1) 0 (by omega) (by omega))
theorem r60 (h : InPg w A0 A1 A2 A3 A4 c0 c1 c2 c3 c4 g) (f : Fits g) : Calls Try.prog 60 #[.slice A2 g.S.length c2, .func (.func 61) #[] #[], .func (.func 52) #[] #[]] w fun e w' => e = .returned (.bool (risesB (cmpL cmpS) okSS none g.S)) ∧ Drawn0 w w' :=
  code_rises_string_60.calls (g.S.length + 140737488351233 + 1) A2 c2 g.S _ w h.S h.lS (rises60_l g.S h.S.2.1 140737488351233 (by omega) (fun x hx => by have := f.SS x hx; omega) _ 0 (by omega) (by omega))
theorem r62 (h : InPg w A0 A1 A2 A3 A4 c0 c1 c2 c3 c4 g) (f : Fits g) : Calls Try.prog 62 #[.slice A3 g.M.length c3, .func (.func 63) #[] #[], .func (.func 56) #[] #[]] w fun e w' => e = .returned (.bool (risesB (cmpL cmpI) okII none g.M)) ∧ Drawn0 w w' :=
  code_rises_int_62.calls (g.M.length + 140737488351233 + 1) A3 c3 g.M _ w h.M h.lM (rises62_l g.M h.M.2.1 140737488351233 (by omega) (fun x hx => by have := f.MM x hx; omega) _ 0 (by omega) (by omega))
end
section
variable (x y z : Int) (w : World)
theorem jnf3a : (Try.prog.info? 3).map (fun i => i.size) = some 1 := by kernel_rfl
theorem jnf3 : ∃ i, Try.prog.info? 3 = some i ∧ i.size = 1 := Option.map_eq_some_iff.1 jnf3a
theorem jx77_0 : (Instr.index 77 (.agg #[.int .i64 x, .int .i64 y, .int .i64 z]) (.int .i64 0)).run Try.prog w = .ok (.int .i64 x) w := by
  obtain ⟨i, h1, h2⟩ := jnf3
  simp [Instr.index, run_underlying Try.underlying77, asIntOf, part, sizeOf, typeInfo, h1, h2, isAgg, run_underlying Try.underlying3, go_sem]
theorem jx77_1 : (Instr.index 77 (.agg #[.int .i64 x, .int .i64 y, .int .i64 z]) (.int .i64 1)).run Try.prog w = .ok (.int .i64 y) w := by
  obtain ⟨i, h1, h2⟩ := jnf3
  simp [Instr.index, run_underlying Try.underlying77, asIntOf, part, sizeOf, typeInfo, h1, h2, isAgg, run_underlying Try.underlying3, go_sem]
theorem jx77_2 : (Instr.index 77 (.agg #[.int .i64 x, .int .i64 y, .int .i64 z]) (.int .i64 2)).run Try.prog w = .ok (.int .i64 z) w := by
  obtain ⟨i, h1, h2⟩ := jnf3
  simp [Instr.index, run_underlying Try.underlying77, asIntOf, part, sizeOf, typeInfo, h1, h2, isAgg, run_underlying Try.underlying3, go_sem]
end
attribute [local go_sem] jx77_0 jx77_1 jx77_2
theorem boxed {W : World} {B : Nat} {a b c d e f g : Value} (h : W.heap[B]? = some (.cells #[a, b, c, d, e, f, g] 32 (0, 0))) : W.cell? ⟨B, 0, none⟩ = some a ∧ W.cell? ⟨B, 1, none⟩ = some b ∧ W.cell? ⟨B, 2, none⟩ = some c ∧ W.cell? ⟨B, 3, none⟩ = some d ∧ W.cell? ⟨B, 4, none⟩ = some e ∧ W.cell? ⟨B, 5, none⟩ = some f ∧ W.cell? ⟨B, 6, none⟩ = some g := by
  refine ⟨?_, ?_, ?_, ?_, ?_, ?_, ?_⟩ <;> simp [World.cell?, h]
theorem xboxed {wr w3 : World} {a b c d : Value} (h : Below (wr.alloc (.cells #[a, b, c, d] 74)).heap.size (wr.alloc (.cells #[a, b, c, d] 74)) w3) (o : Obj) :
    (w3.alloc o).cell? ⟨wr.heap.size, 1, none⟩ = some b ∧ (w3.alloc o).cell? ⟨wr.heap.size, 2, none⟩ = some c ∧ (w3.alloc o).cell? ⟨wr.heap.size, 3, none⟩ = some d := by
  have hx : w3.heap[wr.heap.size]? = some (.cells #[a, b, c, d] 74 (0, 0)) := (h.block _ (by simp)).trans (heap_alloc_new _ _)
  have hy : (w3.alloc o).heap[wr.heap.size]? = some (.cells #[a, b, c, d] 74 (0, 0)) := (heap_alloc_old _ _ (blk_lt hx)).trans hx
  refine ⟨?_, ?_, ?_⟩ <;> simp [World.cell?, hy]
def okFrom (u : Bool × Bool × Bool) (n1 n2 n3 : Int) : Nat → Bool
  | 0 => opOK u.1 n1 && (opOK u.2.1 n2 && opOK u.2.2 n3)
  | 1 => opOK u.2.1 n2 && opOK u.2.2 n3
  | 2 => opOK u.2.2 n3
  | _ => true
set_option maxHeartbeats 4000000 in
set_option maxRecDepth 100000 in
theorem formed_any (w : World) (A0 A1 A2 A3 A4 : Option Addr) (c0 c1 c2 c3 c4 : Nat) (g : Pg) (h : InPg w A0 A1 A2 A3 A4 c0 c1 c2 c3 c4 g) (f : Fits g) :
 Calls Try.prog 23 #[valPg A0 A1 A2 A3 A4 c0 c1 c2 c3 c4 g] w fun e w' => e = .returned (.bool (formedB g)) ∧ Below w.heap.size w w' := by
 have f0 := f
 obtain ⟨fT, fN, fS, fM, fC, SS_, MM_⟩ := f
 unfold valPg
 generalize hFB : formedB g = FB
 have HFB := hid_ hFB; clear hFB
 have hW1 := h.below (below_alloc (Below.refl w.heap.size w) (.cells #[.slice A0 g.T.length c0, .slice A1 g.N.length c1, .slice A2 g.S.length c2, .slice A3 g.M.length c3, .slice A4 g.C.length c4, .int .i64 g.dep, .int .i64 g.loc] 32))
 by_cases h1 : ¬ ((g.T.length : Int) + g.N.length + g.S.length + g.M.length ≤ 4096)
 ·
  have e : FB = false := by rw [← HFB.out]; unfold formedB; rw [decide_eq_false (by omega), Bool.false_and]
  subst e
  go_enter Try.func23, Try.ntmps23
  go_wp2_with (fail)
  go_ret
  exact ⟨rfl, by go_grown⟩
 replace h1 := Classical.not_not.1 h1
 by_cases h2 : ¬ ((g.C.length : Int) ≤ 32768)
 ·
  have e : FB = false := by rw [← HFB.out]; unfold formedB; rw [decide_eq_false (p := g.C.length ≤ 32768) (by omega), Bool.false_and, Bool.and_false]
  subst e
  go_enter Try.func23, Try.ntmps23
  go_wp2_with (fail)
  go_ret
  exact ⟨rfl, by go_grown⟩
 replace h2 := Classical.not_not.1 h2
 by_cases h3 : ¬ (0 ≤ g.dep ∧ g.dep ≤ 128 ∧ 0 ≤ g.loc ∧ g.loc ≤ 1024)
 ·
  have e : FB = false := by rw [← HFB.out]; unfold formedB; rw [decide_eq_false h3, Bool.false_and, Bool.and_false, Bool.and_false]
  subst e
  clear HFB
  go_enter Try.func23, Try.ntmps23
  go_wp2_with (fail)
  all_goals (go_ret; exact ⟨rfl, by go_grown⟩)
 obtain ⟨h3a, h3b, h3c, h3d⟩ := Classical.not_not.1 h3
 have HFB2 : Hid ((risesB cmpS okS none g.T && (risesB cmpI okI none g.N && (risesB (cmpL cmpS) okSS none g.S && (risesB (cmpL cmpI) okII none g.M && g.C.all instrOK)))) = FB) := by
  have := HFB.out
  unfold formedB at this
  rw [decide_eq_true (by omega), decide_eq_true (p := g.C.length ≤ 32768) (by omega), decide_eq_true ⟨h3a, h3b, h3c, h3d⟩, Bool.true_and, Bool.true_and, Bool.true_and] at this
  exact this
 clear HFB h SS_ MM_
 go_enter Try.func23, Try.ntmps23
 go_wp2_with (fail)
 have bel1 := below_alloc (Below.refl w.heap.size w) (.cells #[.slice A0 g.T.length c0, .slice A1 g.N.length c1, .slice A2 g.S.length c2, .slice A3 g.M.length c3, .slice A4 g.C.length c4, .int .i64 g.dep, .int .i64 g.loc] 32)
 have hB1 := heap_alloc_new w (.cells #[.slice A0 g.T.length c0, .slice A1 g.N.length c1, .slice A2 g.S.length c2, .slice A3 g.M.length c3, .slice A4 g.C.length c4, .int .i64 g.dep, .int .i64 g.loc] 32)
 generalize w.alloc (.cells #[.slice A0 g.T.length c0, .slice A1 g.N.length c1, .slice A2 g.S.length c2, .slice A3 g.M.length c3, .slice A4 g.C.length c4, .int .i64 g.dep, .int .i64 g.loc] 32) = W1 at hW1 bel1 hB1 ⊢
 have HRT := r53 hW1
 cases hT : risesB cmpS okS none g.T with
 | false =>
  rw [hT] at HRT
  have e : FB = false := by rw [← HFB2.out, hT]; rfl
  subst e
  clear hT HFB2
  refine HRT.mono ?_
  rintro e W ⟨rfl, hd⟩
  go_wp2_with (fail)
  go_ret
  exact ⟨rfl, bel1.trans (hd.below.mono bel1.size)⟩
 | true =>
  rw [hT] at HRT
  have HFB3 : Hid ((risesB cmpI okI none g.N && (risesB (cmpL cmpS) okSS none g.S && (risesB (cmpL cmpI) okII none g.M && g.C.all instrOK))) = FB) := by
   have := HFB2.out
   rw [hT, Bool.true_and] at this
   exact this
  clear hT HFB2
  refine HRT.mono ?_
  rintro e W2 ⟨rfl, hd⟩
  have hW2 := hW1.below hd.below
  have bel2 := bel1.trans (hd.below.mono bel1.size)
  have hB2 := (hd.below.block _ (blk_lt hB1)).trans hB1
  clear HRT hW1 hd bel1 hB1
  obtain ⟨q0, q1, q2, q3, q4, q5, q6⟩ := boxed hB2
  go_wp2_with (fail)
  clear q0 q1 q2 q3 q4 q5 q6
  have HRN := r57 hW2
  cases hN : risesB cmpI okI none g.N with
  | false =>
   rw [hN] at HRN
   have e : FB = false := by rw [← HFB3.out, hN]; rfl
   subst e
   clear hN HFB3
   refine HRN.mono ?_
   rintro e W ⟨rfl, hd⟩
   go_wp2_with (fail)
   go_ret
   exact ⟨rfl, bel2.trans (hd.below.mono bel2.size)⟩
  | true =>
   rw [hN] at HRN
   have HFB4 : Hid ((risesB (cmpL cmpS) okSS none g.S && (risesB (cmpL cmpI) okII none g.M && g.C.all instrOK)) = FB) := by
    have := HFB3.out
    rw [hN, Bool.true_and] at this
    exact this
   clear hN HFB3
   refine HRN.mono ?_
   rintro e W3 ⟨rfl, hd⟩
   have hW3 := hW2.below hd.below
   have bel3 := bel2.trans (hd.below.mono bel2.size)
   have hB3 := (hd.below.block _ (blk_lt hB2)).trans hB2
   clear HRN hW2 hd bel2 hB2
   obtain ⟨q0, q1, q2, q3, q4, q5, q6⟩ := boxed hB3
   go_wp2_with (fail)
   clear q0 q1 q2 q3 q4 q5 q6
   have HRS := r60 hW3 f0
   cases hS : risesB (cmpL cmpS) okSS none g.S with
   | false =>
    rw [hS] at HRS
    have e : FB = false := by rw [← HFB4.out, hS]; rfl
    subst e
    clear hS HFB4
    refine HRS.mono ?_
    rintro e W ⟨rfl, hd⟩
    go_wp2_with (fail)
    go_ret
    exact ⟨rfl, bel3.trans (hd.below.mono bel3.size)⟩
   | true =>
    rw [hS] at HRS
    have HFB5 : Hid ((risesB (cmpL cmpI) okII none g.M && g.C.all instrOK) = FB) := by
     have := HFB4.out
     rw [hS, Bool.true_and] at this
     exact this
    clear hS HFB4
    refine HRS.mono ?_
    rintro e W4 ⟨rfl, hd⟩
    have hW4 := hW3.below hd.below
    have bel4 := bel3.trans (hd.below.mono bel3.size)
    have hB4 := (hd.below.block _ (blk_lt hB3)).trans hB3
    clear HRS hW3 hd bel3 hB3
    obtain ⟨q0, q1, q2, q3, q4, q5, q6⟩ := boxed hB4
    go_wp2_with (fail)
    clear q0 q1 q2 q3 q4 q5 q6
    have HRM := r62 hW4 f0
    cases hM : risesB (cmpL cmpI) okII none g.M with
    | false =>
     rw [hM] at HRM
     have e : FB = false := by rw [← HFB5.out, hM]; rfl
     subst e
     clear hM HFB5
     refine HRM.mono ?_
     rintro e W ⟨rfl, hd⟩
     go_wp2_with (fail)
     go_ret
     exact ⟨rfl, bel4.trans (hd.below.mono bel4.size)⟩
    | true =>
     rw [hM] at HRM
     have HFB6 : Hid (g.C.all instrOK = FB) := by
      have := HFB5.out
      rw [hM, Bool.true_and] at this
      exact this
     clear hM HFB5
     refine HRM.mono ?_
     rintro e W5 ⟨rfl, hd⟩
     have hW5 := hW4.below hd.below
     have bel5 := bel4.trans (hd.below.mono bel4.size)
     have hB5 := (hd.below.block _ (blk_lt hB4)).trans hB4
     clear HRM hW4 hd bel4 hB4
     obtain ⟨q0, q1, q2, q3, q4, q5, q6⟩ := boxed hB5
     go_wp2_with (fail)
     clear q0 q1 q2 q3 q4 q5 q6
     clear f0 fT fN fS fM hB5
     go_loopw [77] (fun i wr => ∃ k : Nat, k ≤ g.C.length ∧ i = .int .i64 k ∧ Below w.heap.size w wr ∧ k74.C wr A4 g.C.length g.C ∧ (g.C.drop k).all instrOK = FB) (fun i _ => g.C.length - (intOf i).toNat)
     case atStart => exact ⟨0, by omega, rfl, bel5, hW5.C, by rw [List.drop_zero]; exact HFB6.out⟩
     case round =>
      clear hW5 bel5 HFB6
      obtain ⟨k, hk, rfl, bel, hC, he⟩ := hrel
      have HE := hid_ he; clear he
      by_cases hlt : k < g.C.length
      ·
       obtain ⟨ad, rfl, a0, a1, a2, a3⟩ := at_T74 hC (k : Int) (by omega) (by omega)
       rw [Int.toNat_natCast] at a0 a1 a2 a3
       have hx : rd_T74 g.C (k : Int) = g.C[k] := by simp [rd_T74, hlt]
       rw [hx] at a0 a1 a2 a3
       have he := HE.out
       rw [List.drop_eq_getElem_cons hlt, List.all_cons] at he
       clear HE hx
       generalize hR : (g.C.drop (k + 1)).all instrOK = R at he
       have HR := hid_ hR; clear hR
       generalize g.C[k] = x at a0 a1 a2 a3 he
       obtain ⟨op, n1, n2, n3⟩ := x
       unfold instrOK at he
       dsimp only at a0 a1 a2 a3 he
       by_cases hop : ¬ (1 ≤ op ∧ op ≤ 36)
       ·
        have e : FB = false := by rw [← he, decide_eq_false hop]; rfl
        subst e
        clear he
        have hop2 : op < 1 ∨ 36 < op := by omega
        rcases hop2 with hop2 | hop2
        ·
         go_wp2_with (fail)
         go_ret
         exact ⟨rfl, by first | exact below_alloc bel _ | exact below_alloc bel _⟩
        ·
         have hop3 : ¬ op < 1 := by omega
         go_wp2_with (fail)
         go_ret
         exact ⟨rfl, below_alloc bel _⟩
       ·
        replace hop := Classical.not_not.1 hop
        rw [decide_eq_true hop, Bool.true_and] at he
        obtain ⟨hop1, hop2⟩ := hop
        generalize hu : usesV op = u at he
        have uw : ∀ W, Calls Try.prog 35 #[.int .i64 op] W fun re w' => re = .returned (.agg #[.bool u.1, .bool u.2.1, .bool u.2.2]) ∧ Below W.heap.size W w' := fun W => by
         have := uses.walk op W
         rw [hu] at this
         exact this
        clear hu
        have HE := hid_ he; clear he
        go_wp2_with ((with_reducible refine (uw _).mono ?_); rintro e w3 ⟨rfl, bel3⟩; obtain ⟨s1, s2, s3⟩ := xboxed bel3 (.cells #[.bool u.1, .bool u.2.1, .bool u.2.2] 75))
        have bel4 : Below w.heap.size w (w3.alloc (.cells #[.bool u.1, .bool u.2.1, .bool u.2.2] 75)) := below_alloc ((below_alloc bel _).trans (bel3.mono (below_alloc bel _).size)) _
        have hC4 := Kd.C_alloc (Kd.C_below (Kd.C_alloc hC (.cells #[.int .i64 op, .int .i64 n1, .int .i64 n2, .int .i64 n3] 74)) bel3) (.cells #[.bool u.1, .bool u.2.1, .bool u.2.2] 75)
        have hU := heap_alloc_new w3 (.cells #[.bool u.1, .bool u.2.1, .bool u.2.2] 75)
        obtain ⟨b1, b2, b3⟩ := u
        dsimp only at bel4 hC4 hU HE s1 s2 s3 ⊢
        generalize w3.alloc (.cells #[.bool b1, .bool b2, .bool b3] 75) = w4 at bel4 hC4 hU s1 s2 s3 ⊢
        generalize w3.heap.size = U at hU ⊢
        have e0 : w4.cell? ⟨U, 0, none⟩ = some (.bool b1) := by simp [World.cell?, hU]
        have e1 : w4.cell? ⟨U, 1, none⟩ = some (.bool b2) := by simp [World.cell?, hU]
        have e2 : w4.cell? ⟨U, 2, none⟩ = some (.bool b3) := by simp [World.cell?, hU]
        clear s1 s2 s3 a0 a1 a2 a3 hC bel bel3 uw hU hop1 hop2
        have HE2 : Hid ((okFrom (b1, b2, b3) n1 n2 n3 0 && R) = FB) := HE
        clear HE
        go_loop [99] (fun i => ∃ j : Nat, j ≤ 3 ∧ i = .int .i64 j ∧ (okFrom (b1, b2, b3) n1 n2 n3 j && R) = FB) (fun i => 3 - (intOf i).toNat)
        case atStart => exact ⟨0, by omega, rfl, HE2.out⟩
        case round =>
         clear HE2
         obtain ⟨j, hj, rfl, he⟩ := hrel
         have HE := hid_ he; clear he
         have hj' : j = 0 ∨ j = 1 ∨ j = 2 ∨ j = 3 := by omega
         rcases hj' with rfl | rfl | rfl | rfl
         ·
          have HEo : Hid ((opOK b1 n1 && okFrom (b1, b2, b3) n1 n2 n3 1 && R) = FB) := by
           have := HE.out
           have e : okFrom (b1, b2, b3) n1 n2 n3 0 = (opOK b1 n1 && okFrom (b1, b2, b3) n1 n2 n3 1) := by rfl
           rw [e] at this
           exact this
          clear HE
          by_cases hok : opOK b1 n1 = true
          ·
           have HE3 : Hid ((okFrom (b1, b2, b3) n1 n2 n3 1 && R) = FB) := by
            have := HEo.out
            rw [hok, Bool.true_and] at this
            exact this
           clear HEo
           unfold opOK at hok
           cases b1
           ·
            have hz : n1 = 0 := by simpa using hok
            clear hok
            subst hz
            go_wp2_with (fail)
            go_round
            case rel => exact ⟨1, by omega, rfl, HE3.out⟩
            case measure => simp [intOf]
           ·
            have hz : 0 ≤ n1 ∧ n1 ≤ 65535 := by simpa using hok
            clear hok
            obtain ⟨hz1, hz2⟩ := hz
            go_wp2_with (fail)
            go_round
            case rel => exact ⟨1, by omega, rfl, HE3.out⟩
            case measure => simp [intOf]
          ·
           have e : FB = false := by
            rw [← HEo.out, eq_false_of_ne_true hok]; rfl
           subst e
           clear HEo
           unfold opOK at hok
           cases b1
           ·
            have hz : ¬ n1 = 0 := by simpa using hok
            clear hok
            go_wp2_with (fail)
            go_ret
            exact ⟨rfl, bel4⟩
           ·
            have hz : n1 < 0 ∨ 65535 < n1 := by
             have : ¬ (0 ≤ n1 ∧ n1 ≤ 65535) := by simpa using hok
             omega
            clear hok
            rcases hz with hz | hz
            ·
             go_wp2_with (fail)
             go_ret
             exact ⟨rfl, bel4⟩
            ·
             have hz2 : 0 ≤ n1 := by omega
             go_wp2_with (fail)
             go_ret
             exact ⟨rfl, bel4⟩
         ·
          have HEo : Hid ((opOK b2 n2 && okFrom (b1, b2, b3) n1 n2 n3 2 && R) = FB) := by
           have := HE.out
           have e : okFrom (b1, b2, b3) n1 n2 n3 1 = (opOK b2 n2 && okFrom (b1, b2, b3) n1 n2 n3 2) := by rfl
           rw [e] at this
           exact this
          clear HE
          by_cases hok : opOK b2 n2 = true
          ·
           have HE3 : Hid ((okFrom (b1, b2, b3) n1 n2 n3 2 && R) = FB) := by
            have := HEo.out
            rw [hok, Bool.true_and] at this
            exact this
           clear HEo
           unfold opOK at hok
           cases b2
           ·
            have hz : n2 = 0 := by simpa using hok
            clear hok
            subst hz
            go_wp2_with (fail)
            go_round
            case rel => exact ⟨2, by omega, rfl, HE3.out⟩
            case measure => simp [intOf]
           ·
            have hz : 0 ≤ n2 ∧ n2 ≤ 65535 := by simpa using hok
            clear hok
            obtain ⟨hz1, hz2⟩ := hz
            go_wp2_with (fail)
            go_round
            case rel => exact ⟨2, by omega, rfl, HE3.out⟩
            case measure => simp [intOf]
          ·
           have e : FB = false := by
            rw [← HEo.out, eq_false_of_ne_true hok]; rfl
           subst e
           clear HEo
           unfold opOK at hok
           cases b2
           ·
            have hz : ¬ n2 = 0 := by simpa using hok
            clear hok
            go_wp2_with (fail)
            go_ret
            exact ⟨rfl, bel4⟩
           ·
            have hz : n2 < 0 ∨ 65535 < n2 := by
             have : ¬ (0 ≤ n2 ∧ n2 ≤ 65535) := by simpa using hok
             omega
            clear hok
            rcases hz with hz | hz
            ·
             go_wp2_with (fail)
             go_ret
             exact ⟨rfl, bel4⟩
            ·
             have hz2 : 0 ≤ n2 := by omega
             go_wp2_with (fail)
             go_ret
             exact ⟨rfl, bel4⟩
         ·
          have HEo : Hid ((opOK b3 n3 && okFrom (b1, b2, b3) n1 n2 n3 3 && R) = FB) := by
           have := HE.out
           have e : okFrom (b1, b2, b3) n1 n2 n3 2 = (opOK b3 n3 && okFrom (b1, b2, b3) n1 n2 n3 3) := by simp [okFrom]
           rw [e] at this
           exact this
          clear HE
          by_cases hok : opOK b3 n3 = true
          ·
           have HE3 : Hid ((okFrom (b1, b2, b3) n1 n2 n3 3 && R) = FB) := by
            have := HEo.out
            rw [hok, Bool.true_and] at this
            exact this
           clear HEo
           unfold opOK at hok
           cases b3
           ·
            have hz : n3 = 0 := by simpa using hok
            clear hok
            subst hz
            go_wp2_with (fail)
            go_round
            case rel => exact ⟨3, by omega, rfl, HE3.out⟩
            case measure => simp [intOf]
           ·
            have hz : 0 ≤ n3 ∧ n3 ≤ 65535 := by simpa using hok
            clear hok
            obtain ⟨hz1, hz2⟩ := hz
            go_wp2_with (fail)
            go_round
            case rel => exact ⟨3, by omega, rfl, HE3.out⟩
            case measure => simp [intOf]
          ·
           have e : FB = false := by
            rw [← HEo.out, eq_false_of_ne_true hok]; rfl
           subst e
           clear HEo
           unfold opOK at hok
           cases b3
           ·
            have hz : ¬ n3 = 0 := by simpa using hok
            clear hok
            go_wp2_with (fail)
            go_ret
            exact ⟨rfl, bel4⟩
           ·
            have hz : n3 < 0 ∨ 65535 < n3 := by
             have : ¬ (0 ≤ n3 ∧ n3 ≤ 65535) := by simpa using hok
             omega
            clear hok
            rcases hz with hz | hz
            ·
             go_wp2_with (fail)
             go_ret
             exact ⟨rfl, bel4⟩
            ·
             have hz2 : 0 ≤ n3 := by omega
             go_wp2_with (fail)
             go_ret
             exact ⟨rfl, bel4⟩
         ·
          have HE3 : Hid (R = FB) := by
           have := HE.out
           have e : okFrom (b1, b2, b3) n1 n2 n3 3 = true := rfl
           rw [e, Bool.true_and] at this
           exact this
          clear HE
          go_wp2_with (fail)
          go_roundw
          case rel => exact ⟨k + 1, by omega, by go_num, bel4, hC4, by rw [HR.out]; exact HE3.out⟩
          case measure => simp [intOf]; omega
      ·
       have e : g.C.drop k = [] := List.drop_eq_nil_of_le (by omega)
       have he : true = FB := by rw [← HE.out, e]; rfl
       subst he
       clear HE e
       go_wp2_with (fail)
       go_ret
       exact ⟨rfl, bel⟩
end Go.Proofs.Ytlocnfkkfpfpfaa.D
