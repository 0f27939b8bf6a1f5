/- The plain statement of QuantRoom: what Short finds room for is at most the capacity less what is used; else the name that it tells is the least that has too little. -/
import Derived.Test.YtbibnendaddbhaaStatQuantRoom
import Derived.Test.YtbibnendaddbhaaQ1
namespace Go.Proofs.Ytbibnendaddbhaa.Pure
open Go.RowKit Go.Proofs.YtbibnendaddbhaaO Go.Proofs.YtbibnendaddbhaaW.PrintWords Go.Proofs.YtbibnendaddbhaaW.PrintLast Go.Proofs.YtbibnendaddbhaaW.PrintMore Go.Proofs.YtbibnendaddbhaaP Go.Proofs.Ytbibnendaddbhaa.All Go.Proofs.Ytbibnendaddbhaa.Q Go.Proofs.Ytbibnendaddbhaa.StatQuantRoom
namespace Room

theorem mx_pos {a b : Int} (h : 0 < a) (h2 : ¬ a > mx 0 b) : ¬ a > b := by
  unfold mx at h2
  split at h2 <;> omega
theorem mx_ge {a b : Int} (h : a > mx 0 b) : a > b := by
  unfold mx at h
  split at h <;> omega

section
variable {cap used xs : List S28} (h1 : cap.length ≤ 4611686018427387903) (h2 : used.length ≤ 4611686018427387903) (hs : xs.length ≤ 4611686018427387903)
include h1 h2 hs
/-- Where there is room for all. -/
theorem loop_ok (s : ByteArray) (hp : ∀ x ∈ xs, ¬ x.f1 > room cap used x) (hsn : s = ⟨#[]⟩) : ∀ m n : Nat, n + m = xs.length → Ev (fun k => berthlaw02_QuantRoom.l0 k cap used s 0 false xs (xs.length : Int) (n : Int)) true := by
  intro m
  induction m with
  | zero =>
    intro n h
    refine Ev.step (fun k => berthlaw02_QuantRoom.l0.eq_2 _ _ _ _ _ _ _ _ k) (ev_neg (by omega) (ev_pos (by decide) (ev_pos rfl (ev_some' ?_))))
    rw [hsn, toList_eq]; rfl
  | succ m ih =>
    intro n h
    have hn : n < xs.length := by omega
    refine Ev.step (fun k => berthlaw02_QuantRoom.l0.eq_2 _ _ _ _ _ _ _ _ k) (ev_pos (by omega) (ev_pos (by omega) (ev_pos (by omega) ?_)))
    simp only [rd_at hn]
    refine Ev.bind (get_ev cap _ h1) (Ev.bind (get_ev used _ h2) (ev_pos (by simp) (Ev.step (fun k => berthlaw02_QuantRoom.j4.eq_2 _ _ _ _ _ _ _ _ _ _ _ _ k) (ev_pos rfl (ev_neg (hp _ (List.getElem_mem hn)) (ev_pos rfl ?_))))))
    rw [w64_succ (by omega)]
    exact ih (n + 1) (by omega)
/-- Behind the place that has too little. -/
theorem loop_post (s : ByteArray) : ∀ m n : Nat, n + m = xs.length → (∀ y ∈ xs.drop n, blt s y.f0 = true) → Ev (fun k => berthlaw02_QuantRoom.l0 k cap used s 29 true xs (xs.length : Int) (n : Int)) true := by
  intro m
  induction m with
  | zero =>
    intro n h _
    exact Ev.step (fun k => berthlaw02_QuantRoom.l0.eq_2 _ _ _ _ _ _ _ _ k) (ev_neg (by omega) (ev_pos (by decide) (ev_neg (by decide) (ev_some _))))
  | succ m ih =>
    intro n h hp
    have hn : n < xs.length := by omega
    have hb : blt s xs[n].f0 = true := hp _ (by rw [List.drop_eq_getElem_cons hn]; exact List.mem_cons_self)
    have hb' : Op.bytesLess xs[n].f0.toList s.toList = false := blt_asymm hb
    refine Ev.step (fun k => berthlaw02_QuantRoom.l0.eq_2 _ _ _ _ _ _ _ _ k) (ev_pos (by omega) (ev_pos (by omega) (ev_pos (by omega) ?_)))
    simp only [rd_at hn]
    refine Ev.bind (get_ev cap _ h1) (Ev.bind (get_ev used _ h2) (ev_neg (by decide) (Ev.step (fun k => berthlaw02_QuantRoom.j4.eq_2 _ _ _ _ _ _ _ _ _ _ _ _ k) (ev_neg (by rw [hb']; decide) (ev_neg (by decide) (ev_neg (fun e => blt_ne hb (toList_inj.1 e).symm) ?_))))))
    rw [w64_succ (by omega)]
    exact ih (n + 1) (by omega) (fun y hy => hp y (by rw [List.drop_eq_getElem_cons hn]; exact List.mem_cons_of_mem _ hy))
/-- Up to it. -/
theorem loop_pre (x : S28) (hx : x.f1 > room cap used x) : ∀ (pre post : List S28) (n : Nat), xs.drop n = pre ++ x :: post → n ≤ xs.length → (∀ y ∈ pre, blt y.f0 x.f0 = true ∧ ¬ y.f1 > room cap used y) → (∀ y ∈ post, blt x.f0 y.f0 = true) →
    Ev (fun k => berthlaw02_QuantRoom.l0 k cap used x.f0 29 false xs (xs.length : Int) (n : Int)) true := by
  intro pre
  induction pre with
  | nil =>
    intro post n hd hle _ hq
    obtain ⟨hn, hr, ht⟩ := rd_drop hd
    refine Ev.step (fun k => berthlaw02_QuantRoom.l0.eq_2 _ _ _ _ _ _ _ _ k) (ev_pos (by omega) (ev_pos (by omega) (ev_pos (by omega) ?_)))
    simp only [hr]
    have hb' : Op.bytesLess x.f0.toList x.f0.toList = false := blt_irrefl x.f0
    refine Ev.bind (get_ev cap _ h1) (Ev.bind (get_ev used _ h2) (ev_neg (by decide) (Ev.step (fun k => berthlaw02_QuantRoom.j4.eq_2 _ _ _ _ _ _ _ _ _ _ _ _ k) (ev_neg (by rw [hb']; decide) (ev_neg (by decide) (ev_pos rfl ?_))))))
    have hd' : decide (x.f1 > wrap64 (get cap x.f0 - get used x.f0)) = true := decide_eq_true hx
    rw [w64_succ (by omega), hd']
    exact loop_post h1 h2 hs x.f0 (xs.length - (n + 1)) (n + 1) (by omega) (fun y hy => hq y (by rw [ht] at hy; exact hy))
  | cons y pre ih =>
    intro post n hd hle hp hq
    obtain ⟨hn, hr, ht⟩ := rd_drop hd
    obtain ⟨hb, hy⟩ := hp y (by simp)
    refine Ev.step (fun k => berthlaw02_QuantRoom.l0.eq_2 _ _ _ _ _ _ _ _ k) (ev_pos (by omega) (ev_pos (by omega) (ev_pos (by omega) ?_)))
    simp only [hr]
    have hb' : Op.bytesLess y.f0.toList x.f0.toList = true := hb
    refine Ev.bind (get_ev cap _ h1) (Ev.bind (get_ev used _ h2) (ev_neg (by decide) (Ev.step (fun k => berthlaw02_QuantRoom.j4.eq_2 _ _ _ _ _ _ _ _ _ _ _ _ k) (ev_pos hb' (ev_neg hy (ev_neg (by decide) (ev_neg (fun e => blt_ne hb (toList_inj.1 e)) ?_)))))))
    rw [w64_succ (by omega)]
    exact ih post (n + 1) ht (by omega) (fun z hz => hp z (List.mem_cons_of_mem _ hz)) hq
end

theorem j1_ev {cap used xs : List S28} (h1 : cap.length ≤ 4611686018427387903) (h2 : used.length ≤ 4611686018427387903) (hs : xs.length ≤ 4611686018427387903) (hc : chk xs = 0) :
    Ev (fun k => berthlaw02_QuantRoom.j1 k xs cap used (shortL cap used xs).1 (shortL cap used xs).2 false) true := by
  obtain ⟨_, hr⟩ := chk_zero.1 hc
  refine Ev.step (fun k => berthlaw02_QuantRoom.j1.eq_2 _ _ _ _ _ _ k) (ev_neg (by decide) ?_)
  by_cases e : (shortL cap used xs).2 = 0
  · obtain ⟨hS, hp⟩ := shortL_ok e
    rw [hS]
    refine ev_pos rfl (Ev.step (fun k => berthlaw02_QuantRoom.j2.eq_2 _ _ _ _ _ _ k) (ev_neg (by decide) ?_))
    exact loop_ok h1 h2 hs _ (fun x hx => mx_pos (rises_mem hr x hx).2 (hp x hx)) rfl xs.length 0 (by omega)
  · obtain ⟨pre, x, post, hl, hS, hx, hp⟩ := shortL_bad e
    rw [hS]
    refine ev_neg (by simp) (Ev.step (fun k => berthlaw02_QuantRoom.j2.eq_2 _ _ _ _ _ _ k) (ev_neg (by simp) ?_))
    have hr' := hr
    rw [hl] at hr'
    obtain ⟨hb, hq⟩ := rises_app hr'
    exact loop_pre h1 h2 hs x (mx_ge hx) pre post 0 (by simpa using hl) (by omega) (fun y hy => ⟨hb y hy, mx_pos (rises_mem hr y (by rw [hl]; simp [hy])).2 (hp y hy)⟩) hq
end Room
open Room

theorem QuantRoom : StatQuantRoom.Pure := by
  intro a b c ⟨ha, _⟩ ⟨hb, _⟩ ⟨hc, _⟩
  refine Ev.rounds (g := fun k => berthlaw02_QuantRoom.f k a b c) ?_
  unfold berthlaw02_QuantRoom.f
  have la : a.length ≤ 4611686018427387903 := by omega
  have lb : b.length ≤ 4611686018427387903 := by omega
  have lc : c.length ≤ 4611686018427387903 := by omega
  refine Ev.bind (short_ev _ _ _ (by simp) (by simp) (by simp)) ?_
  have hfix : short [(⟨⟨#[99, 112, 117]⟩, 3⟩ : S28), ⟨⟨#[109, 101, 109]⟩, 9⟩] [⟨⟨#[99, 112, 117]⟩, 4⟩, ⟨⟨#[109, 101, 109]⟩, 8⟩] [⟨⟨#[99, 112, 117]⟩, 2⟩] = (⟨#[99, 112, 117]⟩, 29) := by decide +kernel
  rw [hfix]
  refine ev_pos (by decide +kernel) ?_
  refine Ev.step (fun k => berthlaw02_QuantRoom.j0.eq_2 _ _ _ _ k) (ev_neg (by decide) ?_)
  refine Ev.bind (copied_ev ha) (Ev.bind (copied_ev hb) (Ev.bind (copied_ev hc) (Ev.bind (short_ev a b c la lb lc) (Ev.bind (copied_ev ha) (Ev.bind (check_ev a) ?_)))))
  have bad : orL [chk a, chk b, chk c] ≠ 0 → Ev (fun k => berthlaw02_QuantRoom.j1 k a b c (short a b c).1 (short a b c).2 true) true := by
    intro h
    refine Ev.step (fun k => berthlaw02_QuantRoom.j1.eq_2 _ _ _ _ _ _ k) (ev_pos rfl ?_)
    rw [show short a b c = (⟨#[]⟩, orL [chk a, chk b, chk c]) from by unfold short; rw [if_neg h]]
    exact ev_neg h (ev_some' (by rw [toList_eq]; rfl))
  by_cases h1 : chk a = 0
  · refine ev_pos h1 (Ev.bind (copied_ev hb) (Ev.bind (check_ev b) ?_))
    by_cases h2 : chk b = 0
    · refine ev_pos h2 (Ev.bind (copied_ev hc) (Ev.bind (check_ev c) ?_))
      by_cases h3 : chk c = 0
      · have : orL [chk a, chk b, chk c] = 0 := orL_zero.2 (by simp [h1, h2, h3])
        rw [show short a b c = shortL b c a from by unfold short; rw [if_pos this], h3]
        exact j1_ev lb lc la h1
      · have : (chk c != 0) = true := by simpa using h3
        rw [this]
        exact bad (fun e => h3 (orL_zero.1 e _ (by simp)))
    · exact ev_neg h2 (bad (fun e => h2 (orL_zero.1 e _ (by simp))))
  · exact ev_neg h1 (bad (fun e => h1 (orL_zero.1 e _ (by simp))))

end Go.Proofs.Ytbibnendaddbhaa.Pure
