/- The plain statement of QuantAway: what was added can be taken away again, whichever of both; the order doesn't matter; each amount is the sum. -/
import Derived.Test.YtbibnendaddbhaaStatQuantAway
import Derived.Test.YtbibnendaddbhaaQ2
set_option linter.unusedVariables false
set_option linter.unusedSectionVars false
namespace Go.Proofs.Ytbibnendaddbhaa.Pure
open Go.RowKit Go.Proofs.YtbibnendaddbhaaO Go.Proofs.YtbibnendaddbhaaW.PrintWords Go.Proofs.YtbibnendaddbhaaW.PrintLast Go.Proofs.YtbibnendaddbhaaW.PrintMore Go.Proofs.YtbibnendaddbhaaP Go.Proofs.Ytbibnendaddbhaa.All Go.Proofs.Ytbibnendaddbhaa.Q Go.Proofs.Ytbibnendaddbhaa.StatQuantAway
namespace Away

theorem amt_of {l : List S28} (h : ∀ x ∈ l, B28 x) (hp : ∀ x ∈ l, 0 < x.f1) : Amt l := by
  intro nm
  by_cases h0 : get l nm = 0
  · rw [h0]; omega
  · obtain ⟨x, hx, _, e⟩ := get_some h0
    have h1 := (h x hx).2
    have h2 := hp x hx
    have h3 : x.f1 ≤ 9223372036854775807 := by
      have : (Lit.int .i64 x.f1).wf = true := h1
      simp [Lit.wf, IntKind.min, IntKind.max, IntKind.signed, IntKind.bits] at this
      omega
    rw [e]; omega
theorem amt_chk {l : List S28} (h : ∀ x ∈ l, B28 x) : chk l = 0 → Amt l := fun hc => amt_of h (fun x hx => (rises_mem (chk_zero.1 hc).2 x hx).2)
theorem mem_of_get {l : List S28} (hp : ∀ x ∈ l, 0 < x.f1) {nm : ByteArray} : (∃ x ∈ l, x.f0 = nm) ↔ (0 < get l nm ∨ ∃ x ∈ l, x.f0 = nm ∧ get l nm ≤ 0) := by
  constructor
  · rintro ⟨x, hx, e⟩
    by_cases h : 0 < get l nm
    · exact Or.inl h
    · exact Or.inr ⟨x, hx, e, by omega⟩
  · rintro (h | ⟨x, hx, e, _⟩)
    · obtain ⟨x, hx, e, _⟩ := get_some (by omega : get l nm ≠ 0)
      exact ⟨x, hx, e⟩
    · exact ⟨x, hx, e⟩
/-- A list that is made of names that rise. -/
theorem map_up {f : ByteArray → S28} (hf : ∀ nm, (f nm).f0 = nm) {ns : List ByteArray} (h : UpN ns) : Up (ns.map f) := by
  induction ns with
  | nil => exact List.Pairwise.nil
  | cons x r ih =>
    have h' := List.pairwise_cons.1 h
    refine List.Pairwise.cons (fun y hy => ?_) (ih h'.2)
    obtain ⟨z, hz, rfl⟩ := List.mem_map.1 hy
    show blt (f x).f0 (f z).f0 = true
    rw [hf, hf]; exact h'.1 z hz
theorem mrg_comm {a b : List S28} (ha : Up a) (hb : Up b) : mrg a b = mrg b a := by
  have key : ∀ {l m : List ByteArray}, UpN l → UpN m → (∀ x, x ∈ l ↔ x ∈ m) → l = m := by
    intro l m hl hm h
    have := up_ext (map_up (f := fun nm => ⟨nm, 0⟩) (fun _ => rfl) hl) (map_up (f := fun nm => ⟨nm, 0⟩) (fun _ => rfl) hm) (fun x => by
      simp only [List.mem_map]
      exact ⟨fun ⟨z, hz, e⟩ => ⟨z, (h z).1 hz, e⟩, fun ⟨z, hz, e⟩ => ⟨z, (h z).2 hz, e⟩⟩)
    have e2 := congrArg (List.map S28.f0) this
    simpa [List.map_map, Function.comp_def] using e2
  refine key (mrg_up a b ha hb) (mrg_up b a hb ha) (fun x => ?_)
  rw [mrg_mem, mrg_mem]; exact Or.comm
theorem over_comm {a b : List S28} {nm : ByteArray} : over a b nm ↔ over b a nm := by unfold over; rw [Int.add_comm]
theorem sums_comm {a b : List S28} : sums a b = sums b a := by funext nm; unfold sums; rw [Int.add_comm]
theorem addL_comm {a b : List S28} : ∀ {ns : List ByteArray} {acc : List S28}, addL a b acc ns = addL b a acc ns
  | [], _ => rfl
  | nm :: r, acc => by
    unfold addL
    by_cases h : over a b nm
    · rw [if_pos h, if_pos (over_comm.1 h)]
    · rw [if_neg h, if_neg (fun h' => h (over_comm.2 h')), addL_comm, sums_comm]
theorem add_comm {a b : List S28} (ha : chk a = 0) (hb : chk b = 0) : add a b = add b a := by
  have h1 : orL [chk a, chk b] = 0 := orL_zero.2 (by simp [ha, hb])
  have h2 : orL [chk b, chk a] = 0 := orL_zero.2 (by simp [ha, hb])
  have e := mrg_comm (rises_up (chk_zero.1 ha).2) (rises_up (chk_zero.1 hb).2)
  unfold add
  rw [if_pos h1, if_pos h2, e]
  by_cases h3 : (mrg b a).length > 16
  · rw [if_pos h3, if_pos h3]
  · rw [if_neg h3, if_neg h3, addL_comm]

section
variable {a b : List S28} (ha : chk a = 0) (hb : chk b = 0) (Ba : ∀ x ∈ a, B28 x) (Bb : ∀ x ∈ b, B28 x) (he : (add a b).2.2 = 0)
include ha hb Ba Bb he
theorem add_is : (add a b).1 = (mrg a b).map (sums a b) ∧ (mrg a b).length ≤ 16 ∧ ∀ nm ∈ mrg a b, ¬ over a b nm := by
  have h1 : orL [chk a, chk b] = 0 := orL_zero.2 (by simp [ha, hb])
  unfold add at he ⊢
  rw [if_pos h1] at he ⊢
  by_cases h3 : (mrg a b).length > 16
  · rw [if_pos h3] at he; exact absurd he (by decide)
  · rw [if_neg h3] at he ⊢
    by_cases h4 : ∃ nm ∈ mrg a b, over a b nm
    · obtain ⟨nm, _, _, _, e⟩ := addL_bad (acc := []) (mrg_up a b (rises_up (chk_zero.1 ha).2) (rises_up (chk_zero.1 hb).2)) h4
      rw [e] at he; exact absurd he (by simp)
    · have h5 : ∀ nm ∈ mrg a b, ¬ over a b nm := fun nm hnm h => h4 ⟨nm, hnm, h⟩
      rw [addL_ok h5]
      exact ⟨by simp, by omega, h5⟩
theorem get_sum (nm : ByteArray) : get (add a b).1 nm = get a nm + get b nm := by
  obtain ⟨e, _, _⟩ := add_is ha hb Ba Bb he
  have hup : Up (add a b).1 := by rw [e]; exact map_up (fun _ => rfl) (mrg_up a b (rises_up (chk_zero.1 ha).2) (rises_up (chk_zero.1 hb).2))
  by_cases h : nm ∈ mrg a b
  · have := get_mem hup (x := sums a b nm) (by rw [e]; exact List.mem_map.2 ⟨nm, h, rfl⟩)
    exact this
  · have h1 : get a nm = 0 := get_none (fun x hx e' => h ((mrg_mem a b nm).2 (Or.inl ⟨x, hx, e'⟩)))
    have h2 : get b nm = 0 := get_none (fun x hx e' => h ((mrg_mem a b nm).2 (Or.inr ⟨x, hx, e'⟩)))
    rw [h1, h2, e]
    refine get_none (fun x hx e' => h ?_)
    obtain ⟨z, hz, rfl⟩ := List.mem_map.1 hx
    exact e' ▸ hz
theorem pos_of (nm : ByteArray) (h : nm ∈ mrg a b) : isN nm = true ∧ 0 < get a nm + get b nm := by
  have ra := (chk_zero.1 ha).2
  have rb := (chk_zero.1 hb).2
  have A := amt_chk Ba ha nm
  have B := amt_chk Bb hb nm
  rcases (mrg_mem a b nm).1 h with ⟨x, hx, rfl⟩ | ⟨x, hx, rfl⟩
  · have h1 := rises_mem ra x hx
    have h2 := get_mem (rises_up ra) hx
    exact ⟨h1.1, by rw [h2] at A ⊢; omega⟩
  · have h1 := rises_mem rb x hx
    have h2 := get_mem (rises_up rb) hx
    exact ⟨h1.1, by rw [h2] at B ⊢; omega⟩
theorem rises_of {f : ByteArray → S28} (hf : ∀ nm, (f nm).f0 = nm) : ∀ {ns : List ByteArray} {p : Option S28}, UpN ns → (∀ nm ∈ ns, isN nm = true ∧ 0 < (f nm).f1) → (∀ q, p = some q → ∀ nm ∈ ns, blt q.f0 nm = true) → Rises p (ns.map f)
  | [], _, _, _, _ => trivial
  | nm :: r, p, hu, hp, hq => by
    have hu' := List.pairwise_cons.1 hu
    refine ⟨by rw [hf]; exact (hp nm (by simp)).1, (hp nm (by simp)).2, fun q e => by rw [hf]; exact hq q e nm (by simp), ?_⟩
    exact rises_of hf hu'.2 (fun z hz => hp z (List.mem_cons_of_mem _ hz)) (fun q e z hz => by
      obtain rfl := Option.some.inj e
      rw [hf]; exact hu'.1 z hz)
theorem chk_sum : chk (add a b).1 = 0 := by
  obtain ⟨e, hl, _⟩ := add_is ha hb Ba Bb he
  rw [chk_zero, e]
  exact ⟨by simpa using hl, rises_of ha hb Ba Bb he (fun _ => rfl) (mrg_up a b (rises_up (chk_zero.1 ha).2) (rises_up (chk_zero.1 hb).2)) (fun nm h => pos_of ha hb Ba Bb he nm h) (fun q e => by cases e)⟩
theorem amt_sum : Amt (add a b).1 := by
  intro nm
  rw [get_sum ha hb Ba Bb he nm]
  have A := amt_chk Ba ha nm
  have B := amt_chk Bb hb nm
  refine ⟨by omega, ?_⟩
  by_cases h : nm ∈ mrg a b
  · have := (add_is ha hb Ba Bb he).2.2 nm h
    unfold over at this; omega
  · have h1 : get a nm = 0 := get_none (fun x hx e' => h ((mrg_mem a b nm).2 (Or.inl ⟨x, hx, e'⟩)))
    omega
/-- Taken away again. -/
theorem sub_back : sub (add a b).1 b = (a, ⟨#[]⟩, 0) := by
  have hc := chk_sum ha hb Ba Bb he
  have h1 : orL [chk (add a b).1, chk b] = 0 := orL_zero.2 (by simp [hc, hb])
  have hle : ∀ nm ∈ mrg (add a b).1 b, get b nm ≤ get (add a b).1 nm := by
    intro nm _
    rw [get_sum ha hb Ba Bb he nm]
    have A := amt_chk Ba ha nm
    omega
  unfold sub
  rw [if_pos h1, subL_ok hle]
  have hua := rises_up (chk_zero.1 ha).2
  have : ((mrg (add a b).1 b).filter (fun nm => decide (get b nm < get (add a b).1 nm))).map (diff (add a b).1 b) = a := by
    refine up_ext (map_up (fun _ => rfl) ?_) hua (fun x => ?_)
    · exact List.Pairwise.filter _ (mrg_up _ _ (rises_up (chk_zero.1 hc).2) (rises_up (chk_zero.1 hb).2))
    · simp only [List.mem_map, List.mem_filter, decide_eq_true_eq]
      constructor
      · rintro ⟨nm, ⟨_, h3⟩, rfl⟩
        rw [get_sum ha hb Ba Bb he nm] at h3
        obtain ⟨y, hy, e1, e2⟩ := get_some (by omega : get a nm ≠ 0)
        have : diff (add a b).1 b nm = y := by
          unfold diff
          rw [get_sum ha hb Ba Bb he nm]
          cases y
          simp at e1 e2
          subst e1
          simp; omega
        rw [this]; exact hy
      · intro hx
        have h3 := get_mem hua hx
        have h4 := (rises_mem (chk_zero.1 ha).2 x hx).2
        refine ⟨x.f0, ⟨(mrg_mem _ _ _).2 (Or.inl ?_), by rw [get_sum ha hb Ba Bb he, h3]; omega⟩, ?_⟩
        · refine ⟨sums a b x.f0, ?_, rfl⟩
          rw [(add_is ha hb Ba Bb he).1]
          exact List.mem_map.2 ⟨x.f0, (mrg_mem a b _).2 (Or.inl ⟨x, hx, rfl⟩), rfl⟩
        · unfold diff
          rw [get_sum ha hb Ba Bb he, h3]
          cases x
          simp <;> omega
  rw [this]; simp
/-- Each amount is the sum. -/
theorem loop_ev (c : List S28) (hc : c = (add a b).1) : ∀ m n : Nat, n + m = c.length → Ev (fun k => berthlaw02_QuantAway.l0 k a b c (c.length : Int) (n : Int)) true := by
  obtain ⟨e, hl, _⟩ := add_is ha hb Ba Bb he
  have la := (chk_zero.1 ha).1
  have lb := (chk_zero.1 hb).1
  have lc : c.length ≤ 16 := by rw [hc, e]; simpa using hl
  intro m
  induction m with
  | zero =>
    intro n h
    exact Ev.step (fun k => berthlaw02_QuantAway.l0.eq_2 _ _ _ _ _ k) (ev_neg (by omega) (ev_some _))
  | succ m ih =>
    intro n h
    have hn : n < c.length := by omega
    refine Ev.step (fun k => berthlaw02_QuantAway.l0.eq_2 _ _ _ _ _ k) (ev_pos (by omega) (ev_pos (by omega) (ev_pos (by omega) ?_)))
    simp only [rd_at hn]
    refine Ev.bind (get_ev a _ (by omega)) (Ev.bind (get_ev b _ (by omega)) ?_)
    have A := amt_chk Ba ha c[n].f0
    have B := amt_chk Bb hb c[n].f0
    have S : c[n].f1 = get a c[n].f0 + get b c[n].f0 := by
      have hm : c[n] ∈ (mrg a b).map (sums a b) := by rw [← e, ← hc]; exact List.getElem_mem hn
      obtain ⟨z, _, ez⟩ := List.mem_map.1 hm
      rw [← ez]; rfl
    refine ev_neg (by omega) (ev_neg (by omega) (ev_neg (by omega) (ev_pos ?_ ?_)))
    · have M := amt_sum ha hb Ba Bb he c[n].f0
      rw [get_sum ha hb Ba Bb he] at M
      rw [w64 (by omega) (by omega)]; omega
    · rw [w64_succ (by omega)]
      exact ih (n + 1) (by omega)
end
theorem fixed_ev : Ev (fun k => berthlaw02_fixedSum.f k) true := by
  unfold berthlaw02_fixedSum.f
  have A1 : ∀ l : List S28, (∀ x ∈ l, 0 ≤ x.f1 ∧ x.f1 ≤ 9223372036854775807) → Amt l := by
    intro l h nm
    by_cases h0 : get l nm = 0
    · rw [h0]; omega
    · obtain ⟨x, hx, _, e⟩ := get_some h0
      rw [e]; exact h x hx
  refine Ev.bind (add_ev (fun _ => A1 _ (by simp)) (fun _ => A1 _ (by simp))) ?_
  have hfix : add [(⟨⟨#[99, 112, 117]⟩, 4⟩ : S28)] [⟨⟨#[99, 112, 117]⟩, 1⟩, ⟨⟨#[109, 101, 109]⟩, 2⟩] = ([⟨⟨#[99, 112, 117]⟩, 5⟩, ⟨⟨#[109, 101, 109]⟩, 2⟩], ⟨#[]⟩, 0) := by decide +kernel
  rw [hfix]
  refine Ev.bind (same_ev _ _ (by simp)) (ev_pos (by simp) (ev_pos ?_ (ev_some _)))
  rw [toList_eq]
end Away
open Away

theorem QuantAway : StatQuantAway.Pure := by
  intro a b ⟨la, Ba⟩ ⟨lb, Bb⟩
  refine Ev.rounds (g := fun k => berthlaw02_QuantAway.f k a b) ?_
  unfold berthlaw02_QuantAway.f
  have Aa := amt_chk Ba
  have Ab := amt_chk Bb
  refine Ev.bind fixed_ev (ev_pos rfl (Ev.bind (copied_ev la) (Ev.bind (copied_ev lb) (Ev.bind (add_ev Aa Ab) (Ev.bind (copied_ev lb) (Ev.bind (copied_ev la) (Ev.bind (add_ev Ab Aa) (Ev.bind (copied_ev la) (Ev.bind (check_ev a) ?_)))))))))
  have bad : chk a ≠ 0 ∨ chk b ≠ 0 → Ev (fun k => berthlaw02_QuantAway.j0 k a b (add a b).1 (add a b).2.2 (add b a).1 (add b a).2.2 true) true := by
    intro h
    have h1 : orL [chk a, chk b] ≠ 0 := fun e => by have := orL_zero.1 e; simp at this; omega
    have h2 : orL [chk b, chk a] ≠ 0 := fun e => by have := orL_zero.1 e; simp at this; omega
    refine Ev.step (fun k => berthlaw02_QuantAway.j0.eq_2 _ _ _ _ _ _ _ k) (ev_pos rfl ?_)
    have e1 : (add a b).2.2 = orL [chk a, chk b] := by unfold add; rw [if_neg h1]
    have e2 : (add b a).2.2 = orL [chk b, chk a] := by unfold add; rw [if_neg h2]
    rw [e1, e2]
    exact ev_neg h1 (ev_some' (by simpa using h2))
  by_cases h1 : chk a = 0
  · refine ev_pos h1 (Ev.bind (copied_ev lb) (Ev.bind (check_ev b) ?_))
    by_cases h2 : chk b = 0
    · rw [h2, ← add_comm h1 h2]
      have lc : (add a b).1.length * 24 ≤ 140737488351232 := by
        by_cases he : (add a b).2.2 = 0
        · obtain ⟨e, hl, _⟩ := add_is h1 h2 Ba Bb he
          rw [e, List.length_map]; omega
        · unfold add at he ⊢
          rw [if_pos (orL_zero.2 (by simp [h1, h2]))] at he ⊢
          by_cases h3 : (mrg a b).length > 16
          · rw [if_pos h3]; simp
          · rw [if_neg h3] at he ⊢
            by_cases h4 : ∃ nm ∈ mrg a b, over a b nm
            · obtain ⟨nm, _, _, _, e⟩ := addL_bad (acc := []) (mrg_up a b (rises_up (chk_zero.1 h1).2) (rises_up (chk_zero.1 h2).2)) h4
              rw [e]; simp
            · rw [addL_ok (fun nm hnm h => h4 ⟨nm, hnm, h⟩)] at he; exact absurd rfl he
      refine Ev.step (fun k => berthlaw02_QuantAway.j0.eq_2 _ _ _ _ _ _ _ k) (ev_neg (by decide) (ev_pos rfl ?_))
      refine Ev.bind (same_ev _ _ (by omega)) (Ev.step (fun k => berthlaw02_QuantAway.j1.eq_2 _ _ _ _ _ k) (ev_neg (by simp) ?_))
      by_cases he : (add a b).2.2 = 0
      · have hc := chk_sum h1 h2 Ba Bb he
        have Ac := amt_sum h1 h2 Ba Bb he
        have hab := add_comm h1 h2
        have s1 := sub_back h1 h2 Ba Bb he
        have s2 : sub (add a b).1 a = (b, ⟨#[]⟩, 0) := by
          have he' : (add b a).2.2 = 0 := by rw [← hab]; exact he
          have := sub_back h2 h1 Bb Ba he'
          rwa [← hab] at this
        refine ev_pos he (Ev.bind (copied_ev lc) (Ev.bind (copied_ev lb) (Ev.bind (sub_ev (fun _ => Ac) Ab) (Ev.bind (copied_ev lc) (Ev.bind (copied_ev la) (Ev.bind (sub_ev (fun _ => Ac) Aa) ?_))))))
        rw [s1, s2]
        refine ev_pos rfl (ev_pos rfl (Ev.bind (same_ev _ _ (by show a.length ≤ _; omega)) (ev_pos (by simp) (Ev.bind (same_ev _ _ (by show b.length ≤ _; omega)) (Ev.step (fun k => berthlaw02_QuantAway.j2.eq_2 _ _ _ _ k) (ev_neg (by simp) ?_))))))
        have := loop_ev h1 h2 Ba Bb he (add a b).1 rfl (add a b).1.length 0 (by omega)
        simpa using this
      · refine ev_neg he ?_
        unfold add at he ⊢
        rw [if_pos (orL_zero.2 (by simp [h1, h2]))] at he ⊢
        by_cases h3 : (mrg a b).length > 16
        · rw [if_pos h3]; exact ev_neg (by decide) (ev_some' (by decide))
        · rw [if_neg h3] at he ⊢
          by_cases h4 : ∃ nm ∈ mrg a b, over a b nm
          · obtain ⟨nm, _, _, _, e⟩ := addL_bad (acc := []) (mrg_up a b (rises_up (chk_zero.1 h1).2) (rises_up (chk_zero.1 h2).2)) h4
            rw [e]; exact ev_pos rfl (ev_some _)
          · rw [addL_ok (fun nm hnm h => h4 ⟨nm, hnm, h⟩)] at he; exact absurd rfl he
    · have : (chk b != 0) = true := by simpa using h2
      rw [this]; exact bad (Or.inr h2)
  · exact ev_neg h1 (bad (Or.inl h1))

end Go.Proofs.Ytbibnendaddbhaa.Pure
