/- The reference's Rising, Add, Sub and Short: what they come to is what the program's own come to. No Go in sight. -/
import Derived.Test.YtbibnendaddbhaazSumsm22
set_option linter.unusedVariables false
set_option linter.unusedSimpArgs false
namespace Go.Proofs.Ytbibnendaddbhaa.Q
open Go.RowKit Go.Proofs.YtbibnendaddbhaaW.PrintWords Go.Proofs.YtbibnendaddbhaaW.PrintLast Go.Proofs.YtbibnendaddbhaaW.PrintMore Go.Proofs.YtbibnendaddbhaaP Go.Proofs.Ytbibnendaddbhaa.All
def rest (xs : List S28) (last : ByteArray) : List S28 := xs.filter fun x => blt last x.f0
def Least (xs : List S28) (last : ByteArray) (n : Nat) (at_ : Int) : Prop :=
  (at_ = -1 ∧ ∀ i, (h : i < xs.length) → i < n → blt last xs[i].f0 = false) ∨
  ∃ j, ∃ hj : j < xs.length, at_ = (j : Int) ∧ j < n ∧ blt last xs[j].f0 = true ∧ ∀ i, (h : i < xs.length) → i < n → blt last xs[i].f0 = true → blt xs[i].f0 xs[j].f0 = false
theorem least_step {xs : List S28} {last : ByteArray} {n : Nat} {at_ : Int} (hn : n < xs.length) (h : Least xs last n at_) :
 (blt last xs[n].f0 = false → Least xs last (n + 1) at_) ∧
 (blt last xs[n].f0 = true → at_ = -1 → Least xs last (n + 1) (n : Int)) ∧
 (blt last xs[n].f0 = true → ∀ j, (hj : j < xs.length) → at_ = (j : Int) → (blt xs[n].f0 xs[j].f0 = true → Least xs last (n + 1) (n : Int)) ∧ (blt xs[n].f0 xs[j].f0 = false → Least xs last (n + 1) at_)) := by
 refine ⟨fun h1 => ?_, fun h1 h2 => ?_, fun h1 j hj h2 => ⟨fun h3 => ?_, fun h3 => ?_⟩⟩
 ·
  rcases h with ⟨e, h⟩ | ⟨j, hj, e, hjn, hb, h⟩
  ·
   refine Or.inl ⟨e, fun i hi hin => ?_⟩
   rcases Nat.lt_or_ge i n with hlt | hge
   ·
    exact h i hi hlt
   ·
    obtain rfl : i = n := by omega
    exact h1
  ·
   refine Or.inr ⟨j, hj, e, by omega, hb, fun i hi hin hb' => ?_⟩
   rcases Nat.lt_or_ge i n with hlt | hge
   ·
    exact h i hi hlt hb'
   ·
    obtain rfl : i = n := by omega
    rw [h1] at hb'; exact absurd hb' (by simp)
 ·
  rcases h with ⟨e, h⟩ | ⟨j, hj, e, hjn, hb, h⟩
  ·
   refine Or.inr ⟨n, hn, rfl, by omega, h1, fun i hi hin hb' => ?_⟩
   rcases Nat.lt_or_ge i n with hlt | hge
   ·
    rw [h i hi hlt] at hb'; exact absurd hb' (by simp)
   ·
    obtain rfl : i = n := by omega
    exact blt_irrefl _
  ·
   omega
 ·
  rcases h with ⟨e, h⟩ | ⟨j', hj', e, hjn, hb, h⟩
  ·
   omega
  ·
   obtain rfl : j' = j := by omega
   refine Or.inr ⟨n, hn, rfl, by omega, h1, fun i hi hin hb' => ?_⟩
   rcases Nat.lt_or_ge i n with hlt | hge
   ·
    have h4 := h i hi hlt hb'
    cases h5 : blt xs[i].f0 xs[n].f0 with
    | false => rfl
    | true => rw [blt_trans h5 h3] at h4; exact absurd h4 (by simp)
   ·
    obtain rfl : i = n := by omega
    exact blt_irrefl _
 ·
  rcases h with ⟨e, h⟩ | ⟨j', hj', e, hjn, hb, h⟩
  ·
   omega
  ·
   obtain rfl : j' = j := by omega
   refine Or.inr ⟨j', hj', e, by omega, hb, fun i hi hin hb' => ?_⟩
   rcases Nat.lt_or_ge i n with hlt | hge
   ·
    exact h i hi hlt hb'
   ·
    obtain rfl : i = n := by omega
    exact h3
theorem rising_l1 {xs : List S28} (lx : xs.length ≤ 1000) {last : ByteArray} {out : List S28} {c i : Int} {r : List S28}
 (fin : ∀ at_, Least xs last xs.length at_ → Ev (fun k => berthref02_Rising.l1 k xs out last at_ (xs.length : Int) c i) r) :
 ∀ m n : Nat, ∀ at_, n + m = xs.length → Least xs last n at_ → Ev (fun k => berthref02_Rising.l1 k xs out last at_ (n : Int) c i) r := by
 intro m
 induction m with
 | zero =>
  intro n at_ h hl
  obtain rfl : n = xs.length := by omega
  exact fin at_ hl
 | succ m ih =>
  intro n at_ h hl
  have hn : n < xs.length := by omega
  obtain ⟨s1, s2, s3⟩ := least_step hn hl
  refine Ev.step (fun k => berthref02_Rising.l1.eq_2 _ _ _ _ _ _ _ k) (ev_pos (by omega) (ev_pos (by omega) ?_))
  rw [w64_succ (by omega)]
  simp only [rd_at hn]
  by_cases h1 : blt last xs[n].f0 = true
  ·
   refine ev_pos h1 ?_
   rcases hl with ⟨e, _⟩ | ⟨j, hj, e, hjn, hb, _⟩
   ·
    refine ev_pos (by omega) (ih (n + 1) _ (by omega) (s2 h1 e))
   ·
    refine ev_neg (by omega) (ev_pos (by omega) (ev_pos (by omega) ?_))
    obtain ⟨t1, t2⟩ := s3 h1 j hj e
    subst e
    simp only [rd_at hj]
    by_cases h2 : blt xs[n].f0 xs[j].f0 = true
    ·
     exact ev_pos h2 (ih (n + 1) _ (by omega) (t1 h2))
    ·
     exact ev_neg h2 (ih (n + 1) _ (by omega) (t2 (by simpa using h2)))
  ·
   exact ev_neg h1 (ih (n + 1) _ (by omega) (s1 (by simpa using h1)))
theorem lone_ne {xs : List S28} (hl : Lone xs) {i j : Nat} (hi : i < xs.length) (hj : j < xs.length) (h : i ≠ j) : xs[i].f0 ≠ xs[j].f0 := by
 have := List.pairwise_iff_getElem.1 hl
 rcases Nat.lt_or_ge i j with h' | h'
 ·
  exact this i j hi hj h'
 ·
  exact (this j i hj hi (by omega)).symm
theorem filter_len_lt {xs : List S28} {p q : S28 → Bool} {x : S28} (hx : x ∈ xs) (hp : p x = true) (hq : q x = false) (h : ∀ y ∈ xs, q y = true → p y = true) : (xs.filter q).length < (xs.filter p).length := by
 induction xs with
 | nil => simp at hx
 | cons y r ih =>
  have hle : ∀ s : List S28, (∀ z ∈ s, q z = true → p z = true) → (s.filter q).length ≤ (s.filter p).length := by
   intro s
   induction s with
   | nil => intro _; simp
   | cons z s ihs =>
    intro hs
    have := ihs (fun w hw => hs w (List.mem_cons_of_mem _ hw))
    by_cases hqz : q z = true
    ·
     have hpz := hs z (by simp) hqz
     simp [List.filter_cons, hqz, hpz]; omega
    ·
     by_cases hpz : p z = true
     ·
      simp [List.filter_cons, hqz, hpz]; omega
     ·
      simp [List.filter_cons, hqz, hpz]; omega
  rcases List.mem_cons.1 hx with rfl | hx
  ·
   have := hle r (fun w hw => h w (List.mem_cons_of_mem _ hw))
   simp [List.filter_cons, hp, hq]; omega
  ·
   have := ih hx (fun w hw => h w (List.mem_cons_of_mem _ hw))
   by_cases hqy : q y = true
   ·
    have hpy := h y (by simp) hqy
    simp [List.filter_cons, hqy, hpy]; omega
   ·
    by_cases hpy : p y = true
    ·
     simp [List.filter_cons, hqy, hpy]; omega
    ·
     simp [List.filter_cons, hqy, hpy]; omega
def Sofar (xs : List S28) (last : ByteArray) (out : List S28) : Prop := Up out ∧ ∀ x, x ∈ out ↔ (x ∈ xs ∧ x.f1 ≠ 0 ∧ blt last x.f0 = false)
theorem rising_l0 {xs : List S28} (lx : xs.length ≤ 1000) (hl : Lone xs) : ∀ m i : Nat, ∀ last out, i + m = xs.length → (rest xs last).length ≤ m → out.length ≤ i → Sofar xs last out →
 ∃ r, Ev (fun k => berthref02_Rising.l0 k xs out last (xs.length : Int) (i : Int)) r ∧ Up r ∧ ∀ x, x ∈ r ↔ (x ∈ xs ∧ x.f1 ≠ 0) := by
 intro m
 induction m with
 | zero =>
  intro i last out h hr ho hs
  refine ⟨out, Ev.step (fun k => berthref02_Rising.l0.eq_2 _ _ _ _ _ k) (ev_neg (by omega) (ev_some _)), hs.1, fun x => ?_⟩
  rw [hs.2 x]
  constructor
  ·
   exact fun h => ⟨h.1, h.2.1⟩
  ·
   intro h
   refine ⟨h.1, h.2, ?_⟩
   cases h1 : blt last x.f0 with
   | false => rfl
   | true =>
    have : x ∈ rest xs last := List.mem_filter.2 ⟨h.1, h1⟩
    rw [List.length_eq_zero_iff.1 (by omega : (rest xs last).length = 0)] at this
    simp at this
 | succ m ih =>
  intro i last out h hr ho hs
  by_cases hex : ∃ j, ∃ hj : j < xs.length, blt last xs[j].f0 = true ∧ ∀ i, (h : i < xs.length) → blt last xs[i].f0 = true → blt xs[i].f0 xs[j].f0 = false
  ·
   obtain ⟨j, hj, hb, hmin⟩ := hex
   have uniq : ∀ at_, Least xs last xs.length at_ → at_ = (j : Int) := by
    intro at_ hL
    rcases hL with ⟨_, h0⟩ | ⟨j', hj', e, _, hb', hmin'⟩
    ·
     rw [h0 j hj hj] at hb; exact absurd hb (by simp)
    ·
     rw [e]
     by_cases hjj : j' = j
     ·
      rw [hjj]
     ·
      exact absurd (blt_total (hmin j' hj' hb') (hmin' j hj hj hb)) (lone_ne hl hj' hj hjj)
   have hlt : (rest xs xs[j].f0).length < (rest xs last).length :=
    filter_len_lt (List.getElem_mem hj) hb (blt_irrefl _) (fun y _ hy => blt_trans hb hy)
   have le_iff : ∀ x ∈ xs, blt xs[j].f0 x.f0 = false ↔ (blt last x.f0 = false ∨ x = xs[j]) := by
    intro x hx
    obtain ⟨i', hi', rfl⟩ := List.getElem_of_mem hx
    constructor
    ·
     intro h1
     by_cases h2 : blt last xs[i'].f0 = true
     ·
      right
      have h3 := blt_total (hmin i' hi' h2) h1
      by_cases hjj : i' = j
      ·
       subst hjj; rfl
      ·
       exact absurd h3 (lone_ne hl hi' hj hjj)
     ·
      left; simpa using h2
    ·
     rintro (h1 | h1)
     ·
      cases h2 : blt xs[j].f0 xs[i'].f0 with
      | false => rfl
      | true => rw [blt_trans hb h2] at h1; exact absurd h1 (by simp)
     ·
      rw [h1]; exact blt_irrefl _
   by_cases hz : xs[j].f1 = 0
   ·
    obtain ⟨r, hr1, hr2, hr3⟩ := ih (i + 1) xs[j].f0 out (by omega) (by omega) (by omega) ⟨hs.1, fun x => by
     rw [hs.2 x]
     constructor
     ·
      rintro ⟨h1, h2, h3⟩
      exact ⟨h1, h2, (le_iff x h1).2 (Or.inl h3)⟩
     ·
      rintro ⟨h1, h2, h3⟩
      rcases (le_iff x h1).1 h3 with h3 | rfl
      ·
       exact ⟨h1, h2, h3⟩
      ·
       exact absurd hz h2⟩
    refine ⟨r, ?_, hr2, hr3⟩
    refine Ev.step (fun k => berthref02_Rising.l0.eq_2 _ _ _ _ _ k) (ev_pos (by omega) ?_)
    refine rising_l1 lx (fun at_ hL => ?_) xs.length 0 (-1) (by omega) (Or.inl ⟨rfl, fun i _ h => by omega⟩)
    obtain rfl := uniq at_ hL
    refine Ev.step (fun k => berthref02_Rising.l1.eq_2 _ _ _ _ _ _ _ k) (ev_neg (by omega) (ev_neg (by omega) (ev_pos (by omega) (ev_pos (by omega) ?_))))
    rw [w64_succ (by omega)]
    simp only [rd_at hj]
    exact ev_pos hz hr1
   ·
    obtain ⟨r, hr1, hr2, hr3⟩ := ih (i + 1) xs[j].f0 (out ++ [xs[j]]) (by omega) (by omega) (by simp; omega) ⟨by
     refine List.pairwise_append.2 ⟨hs.1, List.pairwise_singleton _ _, fun x hx y hy => ?_⟩
     obtain rfl := List.mem_singleton.1 hy
     have h1 := (hs.2 x).1 hx
     have hx' := h1.1
     obtain ⟨i', hi', rfl⟩ := List.getElem_of_mem hx'
     have h2 := h1.2.2
     cases h3 : blt xs[i'].f0 xs[j].f0 with
     | true => rfl
     | false =>
      have h4 := (le_iff _ (List.getElem_mem hi')).2 (Or.inl h2)
      have := blt_total h3 h4
      rw [this] at h2
      rw [h2] at hb
      exact absurd hb (by simp), fun x => by
     rw [List.mem_append, hs.2 x, List.mem_singleton]
     constructor
     ·
      rintro (⟨h1, h2, h3⟩ | rfl)
      ·
       exact ⟨h1, h2, (le_iff x h1).2 (Or.inl h3)⟩
      ·
       exact ⟨List.getElem_mem hj, hz, blt_irrefl _⟩
     ·
      rintro ⟨h1, h2, h3⟩
      rcases (le_iff x h1).1 h3 with h3 | h3
      ·
       exact Or.inl ⟨h1, h2, h3⟩
      ·
       exact Or.inr h3⟩
    refine ⟨r, ?_, hr2, hr3⟩
    refine Ev.step (fun k => berthref02_Rising.l0.eq_2 _ _ _ _ _ k) (ev_pos (by omega) ?_)
    refine rising_l1 lx (fun at_ hL => ?_) xs.length 0 (-1) (by omega) (Or.inl ⟨rfl, fun i _ h => by omega⟩)
    obtain rfl := uniq at_ hL
    refine Ev.step (fun k => berthref02_Rising.l1.eq_2 _ _ _ _ _ _ _ k) (ev_neg (by omega) (ev_neg (by omega) (ev_pos (by omega) (ev_pos (by omega) ?_))))
    rw [w64_succ (by omega)]
    simp only [rd_at hj]
    exact ev_neg hz (ev_pos (by omega) hr1)
  ·
   have none_ : ∀ at_, Least xs last xs.length at_ → at_ = -1 ∧ ∀ i, (h : i < xs.length) → blt last xs[i].f0 = false := by
    intro at_ hL
    rcases hL with ⟨e, h0⟩ | ⟨j', hj', e, _, hb', hmin'⟩
    ·
     exact ⟨e, fun i hi => h0 i hi hi⟩
    ·
     exact absurd ⟨j', hj', hb', fun i hi h => hmin' i hi hi h⟩ hex
   have hall : ∀ i, (h : i < xs.length) → blt last xs[i].f0 = false := by
    have : ∀ n, n ≤ xs.length → ∃ at_, Least xs last n at_ := by
     intro n
     induction n with
     | zero => intro _; exact ⟨-1, Or.inl ⟨rfl, fun i _ h => by omega⟩⟩
     | succ n ihn =>
      intro hn
      obtain ⟨at_, hL⟩ := ihn (by omega)
      obtain ⟨s1, s2, s3⟩ := least_step (by omega : n < xs.length) hL
      by_cases h1 : blt last xs[n].f0 = true
      ·
       rcases hL with ⟨e, _⟩ | ⟨j, hj, e, _, _, _⟩
       ·
        exact ⟨_, s2 h1 e⟩
       ·
        by_cases h2 : blt xs[n].f0 xs[j].f0 = true
        ·
         exact ⟨_, (s3 h1 j hj e).1 h2⟩
        ·
         exact ⟨_, (s3 h1 j hj e).2 (by simpa using h2)⟩
      ·
       exact ⟨_, s1 (by simpa using h1)⟩
    obtain ⟨at_, hL⟩ := this xs.length (Nat.le_refl _)
    exact (none_ at_ hL).2
   refine ⟨out, ?_, hs.1, fun x => ?_⟩
   ·
    refine Ev.step (fun k => berthref02_Rising.l0.eq_2 _ _ _ _ _ k) (ev_pos (by omega) ?_)
    refine rising_l1 lx (fun at_ hL => ?_) xs.length 0 (-1) (by omega) (Or.inl ⟨rfl, fun i _ h => by omega⟩)
    obtain ⟨rfl, _⟩ := none_ at_ hL
    exact Ev.step (fun k => berthref02_Rising.l1.eq_2 _ _ _ _ _ _ _ k) (ev_neg (by omega) (ev_pos (by decide) (ev_some _)))
   ·
    rw [hs.2 x]
    constructor
    ·
     exact fun h => ⟨h.1, h.2.1⟩
    ·
     intro h
     obtain ⟨i', hi', e⟩ := List.getElem_of_mem h.1
     exact ⟨h.1, h.2, by rw [← e]; exact hall i' hi'⟩
theorem rising_ev {xs : List S28} (lx : xs.length ≤ 1000) (hl : Lone xs) (hz : ∀ x ∈ xs, 0 < x.f0.size) : ∃ r, Ev (fun k => berthref02_Rising.f k xs) r ∧ Up r ∧ ∀ x, x ∈ r ↔ (x ∈ xs ∧ x.f1 ≠ 0) := by
 have := rising_l0 lx hl xs.length 0 ⟨#[]⟩ [] (by omega) (List.length_filter_le _ _) (by simp) ⟨List.Pairwise.nil, fun x => by
  constructor
  ·
   intro h; simp at h
  ·
   rintro ⟨h1, _, h3⟩
   rw [blt_nil (hz x h1)] at h3; exact absurd h3 (by simp)⟩
 simpa [berthref02_Rising.f] using this
theorem rising_is {xs l : List S28} (lx : xs.length ≤ 1000) (hl : Lone xs) (hz : ∀ x ∈ xs, 0 < x.f0.size) (hu : Up l) (h : ∀ x, x ∈ l ↔ (x ∈ xs ∧ x.f1 ≠ 0)) : Ev (fun k => berthref02_Rising.f k xs) l := by
  obtain ⟨r, h1, h2, h3⟩ := rising_ev lx hl hz
  have : r = l := up_ext h2 hu (fun x => by rw [h3 x, h x])
  rw [← this]; exact h1
end Go.Proofs.Ytbibnendaddbhaa.Q
