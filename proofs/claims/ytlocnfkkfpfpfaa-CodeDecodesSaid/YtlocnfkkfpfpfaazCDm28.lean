/- Decode. -/
import Derived.Test.YtlocnfkkfpfpfaazCDm27
import Derived.Defers
import Derived.Recover
namespace Go.Proofs.Ytlocnfkkfpfpfaa.D
open Go.RowKit Go.Proofs.YtlocnfkkfpfpfaaW.PrintWords Go.Proofs.YtlocnfkkfpfpfaaW.PrintLast Go.Proofs.YtlocnfkkfpfpfaaW.PrintMore Go.Proofs.Ytlocnfkkfpfpfaa.Six
set_option linter.unusedSimpArgs false
set_option linter.unusedVariables false
theorem heap_int8 : Kd.Heap (Kd.int .u8) := Kd.heap_int .u8
def IsDec (w : World) (bs : List Int) (e : Ending) (w' : World) : Prop :=
  match programF bs with
  | .ok (g, _) => ∃ v, e = .returned (.tuple #[v, .nilIface]) ∧ IsPg w.heap.size g v w' ∧ Below w.heap.size w w'
  | .error (k, q) => ∃ F, e = .returned (.tuple #[.agg #[.slice none 0 0, .slice none 0 0, .slice none 0 0, .slice none 0 0, .slice none 0 0, .int .i64 0, .int .i64 0], .iface 53 (.pointer (some ⟨F, 0, none⟩))]) ∧ w.heap.size ≤ F ∧ w'.heap[F]? = some (.cells #[.int .i64 k, .int .i64 q, .string ⟨#[]⟩, .nilIface] 56 (0, 0)) ∧ Below w.heap.size w w'
theorem assert53 (v : Value) (w : World) : (Instr.typeAssert (.iface 53 v) 20 53 true).run Try.prog w = .ok (.tuple #[v, .bool true]) w := by
  simp [Instr.typeAssert, go_sem, run_underlying Try.underlying53]
set_option maxHeartbeats 400000 in
set_option maxRecDepth 100000 in
theorem catch_panicking (p q F : Nat) (older : List PanicEntry) (w : World) (hp : w.heap[p]? = some (.cells #[.slice none 0 0, .slice none 0 0, .slice none 0 0, .slice none 0 0, .slice none 0 0, .int .i64 0, .int .i64 0] 32 (0, 0))) (hq : w.heap[q]? = some (.cells #[.nilIface] 47 (0, 0))) (hpq : p ≠ q) :
 CallsD Try.prog 48 #[.pointer (some ⟨p, 0, none⟩), .pointer (some ⟨q, 0, none⟩)] (.panicking ({ v := .iface 53 (.pointer (some ⟨F, 0, none⟩)), recovered := false } :: older)) w fun e u' w' =>
  e = .returned (.tuple #[]) ∧ u' = .panicking ({ v := .iface 53 (.pointer (some ⟨F, 0, none⟩)), recovered := true } :: older) ∧ w' = (setZ w p (.slice none 0 0) (.slice none 0 0) (.slice none 0 0) (.slice none 0 0) (.slice none 0 0) (.int .i64 0) (.int .i64 0)).setCell ⟨q, 0, none⟩ (.iface 53 (.pointer (some ⟨F, 0, none⟩))) := by
 have p0 : w.cell? ⟨p, 0, none⟩ = some (.slice none 0 0) := by simp [World.cell?, hp]
 have p1 : w.cell? ⟨p, 1, none⟩ = some (.slice none 0 0) := by simp [World.cell?, hp]
 have p2 : w.cell? ⟨p, 2, none⟩ = some (.slice none 0 0) := by simp [World.cell?, hp]
 have p3 : w.cell? ⟨p, 3, none⟩ = some (.slice none 0 0) := by simp [World.cell?, hp]
 have p4 : w.cell? ⟨p, 4, none⟩ = some (.slice none 0 0) := by simp [World.cell?, hp]
 have p5 : w.cell? ⟨p, 5, none⟩ = some (.int .i64 0) := by simp [World.cell?, hp]
 have p6 : w.cell? ⟨p, 6, none⟩ = some (.int .i64 0) := by simp [World.cell?, hp]
 have z0 : ∀ i, w.frozen? ⟨p, i, none⟩ = false := fun i => by simp [World.frozen?, hp]
 have q0 : w.cell? ⟨q, 0, none⟩ = some .nilIface := by simp [World.cell?, hq]
 have y0 : w.frozen? ⟨q, 0, none⟩ = false := by simp [World.frozen?, hq]
 refine callsD_of_wpS Try.func48 rfl fun c₀ cs hu => ?_
 apply wpS_seq
 apply wpS_region
 simp [wpOpsS, go_sem, recoverD, hu, Try.ntmps48, Exit.thenS]
 apply wpS_seq
 apply wpS_region
 simp [wpOpsS, go_sem, Exit.thenS]
 refine wpS_cond (t := true) (by simp [Act.eval, Array.replicate]) ?_
 simp only [if_true]
 have hta := assert53 (.pointer (some ⟨F, 0, none⟩))
 refine wpS_of_wp ?_
 simp only [Array.replicate, List.replicate, List.setIfInBounds_toArray, List.set_cons_zero, List.set_cons_succ, List.append_toArray, List.cons_append, List.nil_append, Array.append_assoc]
 go_wp2_with (fail)
 simp [bodyPostS, results, Try.results48, setZ]
theorem catch_idle (p q : Addr) (w : World) :
    CallsD Try.prog 48 #[.pointer (some p), .pointer (some q)] .returning w fun e u' w' => e = .returned (.tuple #[]) ∧ u' = .returning ∧ w' = w := by
  refine callsD_of_wpS Try.func48 rfl fun c₀ cs hu => ?_
  apply wpS_seq
  apply wpS_region
  simp [wpOpsS, go_sem, recoverD, hu, Try.ntmps48, Exit.thenS]
  apply wpS_seq
  apply wpS_region
  simp [wpOpsS, go_sem, Exit.thenS]
  refine wpS_cond (t := false) (by simp [Act.eval, Array.replicate]) ?_
  simp only [Bool.false_eq_true, if_false]
  refine wpS_of_wp (wp_skip ?_)
  cases c₀
  simp_all [bodyPostS, results, Try.results48]
theorem load47 (w : World) (E : Nat) (ev : Value) (hE : w.cell? ⟨E, 0, none⟩ = some ev) : (loadVar 47 ⟨E, 0, none⟩).run Try.prog w = .ok ev w := by
  simp [loadVar, run_underlying Try.underlying47, go_sem, hE]
theorem results17 (tmps : Array Value) (w : World) (P E : Nat) (cs : Array Value) (ev : Value) (h2 : tmps.getD 2 undef = .pointer (some ⟨P, 0, none⟩)) (h3 : tmps.getD 3 undef = .pointer (some ⟨E, 0, none⟩)) (hP : w.heap[P]? = some (.cells cs 32 (0, 0))) (hcs : cs.size = 7) (hE : w.cell? ⟨E, 0, none⟩ = some ev) :
    (results Try.f17 tmps).run Try.prog w = .ok (.tuple #[.agg cs, ev]) w := by
  have hl := run_loadVar_row (P := Try.prog) w P 32 32 cs (0, 0) _ hP Try.underlying32 rfl (by rw [hcs]; kernel_rfl)
  have hm := load47 w E ev hE
  have h2' : tmps[2]?.getD undef = .pointer (some ⟨P, 0, none⟩) := by simpa using h2
  have h3' : tmps[3]?.getD undef = .pointer (some ⟨E, 0, none⟩) := by simpa using h3
  simp [results, Try.results17, h2', h3', asAddr, hl, hm]
theorem setZ_heap (W : World) (Z : Nat) (a b c d e f g : Value) (h : ∃ x0 x1 x2 x3 x4 x5 x6, W.heap[Z]? = some (.cells #[x0, x1, x2, x3, x4, x5, x6] 32 (0, 0))) : (setZ W Z a b c d e f g).heap[Z]? = some (.cells #[a, b, c, d, e, f, g] 32 (0, 0)) := by
  obtain ⟨x0, x1, x2, x3, x4, x5, x6, h⟩ := h
  unfold setZ
  simp [World.setCell, h, Array.getElem?_modify]
theorem setZ_other (W : World) (Z : Nat) (a b c d e f g : Value) (k : Nat) (hk : k ≠ Z) : (setZ W Z a b c d e f g).heap[k]? = W.heap[k]? := by
  unfold setZ
  rw [Below.heap_setCell _ _ _ _ (by simpa using hk), Below.heap_setCell _ _ _ _ (by simpa using hk), Below.heap_setCell _ _ _ _ (by simpa using hk), Below.heap_setCell _ _ _ _ (by simpa using hk), Below.heap_setCell _ _ _ _ (by simpa using hk), Below.heap_setCell _ _ _ _ (by simpa using hk), Below.heap_setCell _ _ _ _ (by simpa using hk)]
theorem stored {w W1 : World} {R : Nat} {A : Option Addr} {c : Nat} {bs : List Int} {q : Int} {W0 : World} (bel0 : Below w.heap.size w W0) (hs0 : W0.heap.size = w.heap.size + 3) (hR : R = w.heap.size + 2) (hr : Rd W0 W1 R A c bs q) (hp1 : W1.heap[w.heap.size]? = some (.cells #[.slice none 0 0, .slice none 0 0, .slice none 0 0, .slice none 0 0, .slice none 0 0, .int .i64 0, .int .i64 0] 32 (0, 0))) (hq1 : W1.heap[w.heap.size + 1]? = some (.cells #[.nilIface] 47 (0, 0))) (a b d e f g h ev : Value) :
 (∀ k, k ≠ w.heap.size → k ≠ w.heap.size + 1 → ((setZ W1 w.heap.size a b d e f g h).setCell ⟨w.heap.size + 1, 0, none⟩ ev).heap[k]? = W1.heap[k]?) ∧
 ((setZ W1 w.heap.size a b d e f g h).setCell ⟨w.heap.size + 1, 0, none⟩ ev).heap[w.heap.size]? = some (.cells #[a, b, d, e, f, g, h] 32 (0, 0)) ∧
 ((setZ W1 w.heap.size a b d e f g h).setCell ⟨w.heap.size + 1, 0, none⟩ ev).cell? ⟨w.heap.size + 1, 0, none⟩ = some ev ∧
 Below w.heap.size w ((setZ W1 w.heap.size a b d e f g h).setCell ⟨w.heap.size + 1, 0, none⟩ ev) := by
 have e2 : ∀ k, k ≠ w.heap.size → k ≠ w.heap.size + 1 → ((setZ W1 w.heap.size a b d e f g h).setCell ⟨w.heap.size + 1, 0, none⟩ ev).heap[k]? = W1.heap[k]? := fun k h1 h2 => by
  rw [Below.heap_setCell _ _ _ _ (by simpa using h2), setZ_other _ _ _ _ _ _ _ _ _ _ h1]
 have e3 : (setZ W1 w.heap.size a b d e f g h).heap[w.heap.size + 1]? = some (.cells #[.nilIface] 47 (0, 0)) := (setZ_other _ _ _ _ _ _ _ _ _ _ (by omega)).trans hq1
 refine ⟨e2, ?_, ?_, ?_⟩
 ·
  rw [Below.heap_setCell _ _ _ _ (by simp)]
  exact setZ_heap _ _ _ _ _ _ _ _ _ ⟨_, _, _, _, _, _, _, hp1⟩
 ·
  simp [World.cell?, World.setCell, e3, Array.getElem?_modify]
 ·
  have hb : Below w.heap.size w W1 := bel0.trans (hr.below.mono (by omega))
  unfold setZ
  exact (((((((hb.setCell (by simp) _).setCell (by simp) _).setCell (by simp) _).setCell (by simp) _).setCell (by simp) _).setCell (by simp) _).setCell (by simp) _).setCell (by simp) _
set_option maxHeartbeats 1000000 in
set_option maxRecDepth 100000 in
theorem decode_any (w : World) (A : Option Addr) (c : Nat) (bs : List Int) (hC : Kd.C (Kd.int .u8) w A bs.length bs) (hc : bs.length ≤ c) (G : Good bs) :
 Calls Try.prog 17 #[.slice A bs.length c] w (IsDec w bs) := by
 have hmf : ∀ (fn : Fn) (first cap : Array Value) (w : World), (Instr.makeFunc fn first cap).run Try.prog w = .ok (.func fn first cap) w := fun _ _ _ _ => rfl
 generalize hW0 : ((w.alloc (.cells #[.slice none 0 0, .slice none 0 0, .slice none 0 0, .slice none 0 0, .slice none 0 0, .int .i64 0, .int .i64 0] 32)).alloc (.cells #[.nilIface] 47)).alloc (.cells #[.slice A bs.length c, .int .i64 0] 95) = W0
 have HW0 := hid_ hW0
 have bel0 : Below w.heap.size w W0 := by rw [← hW0]; exact below_alloc (below_alloc (below_alloc (Below.refl _ _) _) _) _
 have hs0 : W0.heap.size = w.heap.size + 3 := by rw [← hW0]; simp
 have hp0 : W0.heap[w.heap.size]? = some (.cells #[.slice none 0 0, .slice none 0 0, .slice none 0 0, .slice none 0 0, .slice none 0 0, .int .i64 0, .int .i64 0] 32 (0, 0)) := by
  rw [← hW0, heap_alloc_old _ _ (by simp; omega), heap_alloc_old _ _ (by simp)]; exact heap_alloc_new w _
 have hq0 : W0.heap[w.heap.size + 1]? = some (.cells #[.nilIface] 47 (0, 0)) := by
  rw [← hW0, heap_alloc_old _ _ (by simp)]
  have := heap_alloc_new (w.alloc (.cells #[.slice none 0 0, .slice none 0 0, .slice none 0 0, .slice none 0 0, .slice none 0 0, .int .i64 0, .int .i64 0] 32)) (.cells #[.nilIface] 47)
  simpa using this
 have hr0 : W0.heap[w.heap.size + 2]? = some (.cells #[.slice A bs.length c, .int .i64 0] 95 (0, 0)) := by
  rw [← hW0]
  have := heap_alloc_new ((w.alloc (.cells #[.slice none 0 0, .slice none 0 0, .slice none 0 0, .slice none 0 0, .slice none 0 0, .int .i64 0, .int .i64 0] 32)).alloc (.cells #[.nilIface] 47)) (.cells #[.slice A bs.length c, .int .i64 0] 95)
  simpa using this
 have hrd : Rd W0 W0 (w.heap.size + 2) A c bs 0 :=
  ⟨Below.refl _ _, Kept.refl _ _, hr0, fun W hk => Kd.C_kept_came heap_int8 hC bel0 (fun k hk => by omega) W hk⟩
 have HP := program_any W0 (w.heap.size + 2) A c bs hrd G hc
 clear hW0
 unfold IsDec
 cases hpr : programF bs with
 | error f =>
  obtain ⟨k, q⟩ := f
  rw [hpr] at HP
  dsimp only
  go_enter_defers Try.func17, Try.ntmps17
  go_wp2_with (fail)
  rw [HW0.out]
  refine HP.mono ?_
  rintro e W1 ⟨F, p1, rfl, hF, hFc, hr⟩
  have hp1 := (hr.kept.2 w.heap.size (by omega) (by omega)).trans hp0
  have hq1 := (hr.kept.2 (w.heap.size + 1) (by omega) (by omega)).trans hq0
  have hsz := hr.kept.1
  clear hrd hpr
  go_wp2_with (fail)
  refine leaves_cons (f := 48) (args := #[.pointer (some ⟨w.heap.size, 0, none⟩), .pointer (some ⟨w.heap.size + 1, 0, none⟩)]) (by simp) (by simp [go_sem]) ?_
  refine (catch_panicking w.heap.size (w.heap.size + 1) F [] _ hp1 hq1 (by omega)).mono ?_
  rintro e u' w'' ⟨rfl, rfl, rfl⟩
  obtain ⟨t1, t2, t3, t4⟩ := stored bel0 hs0 rfl hr hp1 hq1 (.slice none 0 0) (.slice none 0 0) (.slice none 0 0) (.slice none 0 0) (.slice none 0 0) (.int .i64 0) (.int .i64 0) (.iface 53 (.pointer (some ⟨F, 0, none⟩)))
  exact ⟨_, results17 _ _ w.heap.size (w.heap.size + 1) _ _ rfl rfl t2 rfl t3, F, rfl, by omega, (t1 F (by omega) (by omega)).trans hFc, t4⟩
 | ok gq =>
  obtain ⟨g, q⟩ := gq
  rw [hpr] at HP
  dsimp only
  go_enter_defers Try.func17, Try.ntmps17
  go_wp2_with (fail)
  rw [HW0.out]
  refine HP.mono ?_
  rintro e W1 ⟨v, rfl, ⟨vT, vN, vS, vM, vC, rfl, hT, hN, hS, hM, hC5⟩, hr⟩
  obtain ⟨A1, c1, rfl⟩ := Kd.R_slice hT
  obtain ⟨A2, c2, rfl⟩ := Kd.R_slice hN
  obtain ⟨A3, c3, rfl⟩ := Kd.R_slice hS
  obtain ⟨A4, c4, rfl⟩ := Kd.R_slice hM
  obtain ⟨A5, c5, rfl⟩ := Kd.R_slice hC5
  have hp1 := (hr.kept.2 w.heap.size (by omega) (by omega)).trans hp0
  have hq1 := (hr.kept.2 (w.heap.size + 1) (by omega) (by omega)).trans hq0
  have hsz := hr.kept.1
  clear hrd hpr
  have p0 : W1.cell? ⟨w.heap.size, 0, none⟩ = some (.slice none 0 0) := by simp [World.cell?, hp1]
  have p1 : W1.cell? ⟨w.heap.size, 1, none⟩ = some (.slice none 0 0) := by simp [World.cell?, hp1]
  have p2 : W1.cell? ⟨w.heap.size, 2, none⟩ = some (.slice none 0 0) := by simp [World.cell?, hp1]
  have p3 : W1.cell? ⟨w.heap.size, 3, none⟩ = some (.slice none 0 0) := by simp [World.cell?, hp1]
  have p4 : W1.cell? ⟨w.heap.size, 4, none⟩ = some (.slice none 0 0) := by simp [World.cell?, hp1]
  have p5 : W1.cell? ⟨w.heap.size, 5, none⟩ = some (.int .i64 0) := by simp [World.cell?, hp1]
  have p6 : W1.cell? ⟨w.heap.size, 6, none⟩ = some (.int .i64 0) := by simp [World.cell?, hp1]
  have z0 : ∀ i, W1.frozen? ⟨w.heap.size, i, none⟩ = false := fun i => by simp [World.frozen?, hp1]
  have q0 : W1.cell? ⟨w.heap.size + 1, 0, none⟩ = some .nilIface := by simp [World.cell?, hq1]
  have y0 : W1.frozen? ⟨w.heap.size + 1, 0, none⟩ = false := by simp [World.frozen?, hq1]
  go_wp2_with (fail)
  refine leaves_cons (f := 48) (args := #[.pointer (some ⟨w.heap.size, 0, none⟩), .pointer (some ⟨w.heap.size + 1, 0, none⟩)]) (by simp) (by simp [go_sem]) ?_
  refine (catch_idle ⟨w.heap.size, 0, none⟩ ⟨w.heap.size + 1, 0, none⟩ _).mono ?_
  rintro e u' w'' ⟨rfl, rfl, rfl⟩
  obtain ⟨t1, t2, t3, t4⟩ := stored bel0 hs0 rfl hr hp1 hq1 (.slice A1 g.T.length c1) (.slice A2 g.N.length c2) (.slice A3 g.S.length c3) (.slice A4 g.M.length c4) (.slice A5 g.C.length c5) (.int .i64 g.dep) (.int .i64 g.loc) .nilIface
  have far : ∀ {α : Type} {d : Kd α} {t : Nat} {v : Value} {l : List α}, d.R t W1 W0.heap.size (fun _ => True) v l → d.R t ((setZ W1 w.heap.size (.slice A1 g.T.length c1) (.slice A2 g.N.length c2) (.slice A3 g.S.length c3) (.slice A4 g.M.length c4) (.slice A5 g.C.length c5) (.int .i64 g.dep) (.int .i64 g.loc)).setCell ⟨w.heap.size + 1, 0, none⟩ .nilIface) w.heap.size (fun _ => True) v l := fun hv =>
   Kd.R_mono (Kd.R_lower (Kd.R_step (Kd.R_bound hv) (fun k hk _ => t1 k (by have := hk.2.1; omega) (by have := hk.2.1; omega))) (by omega)) (fun _ _ => trivial)
  exact ⟨_, results17 _ _ w.heap.size (w.heap.size + 1) _ _ rfl rfl t2 rfl t3, _, rfl, ⟨_, _, _, _, _, rfl, far hT, far hN, far hS, far hM, far hC5⟩, t4⟩
end Go.Proofs.Ytlocnfkkfpfpfaa.D
