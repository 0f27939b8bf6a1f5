/- What the printed functions of the reference's sums come to: the same plain functions, or a rising list with the same elements. No Go in sight. -/
import Derived.Test.YtbibnendaddbhaazSumsm6
import Derived.Test.YtbibnendaddbhaazSumsm7
import Derived.Test.YtbibnendaddbhaazSumsm8
import Derived.Test.YtbibnendaddbhaazSumsm9
import Derived.Test.YtbibnendaddbhaazSumsm10
import Derived.Test.YtbibnendaddbhaazSumsm21
set_option linter.unusedVariables false
namespace Go.Proofs.Ytbibnendaddbhaa.Q
open Go.RowKit Go.Proofs.YtbibnendaddbhaaW.PrintWords Go.Proofs.YtbibnendaddbhaaW.PrintLast Go.Proofs.YtbibnendaddbhaaW.PrintMore Go.Proofs.YtbibnendaddbhaaP Go.Proofs.Ytbibnendaddbhaa.All
theorem ev_ite {α : Type} {c : Prop} [Decidable c] {a b : Nat → Option α} {r : α} (h1 : c → Ev a r) (h2 : ¬ c → Ev b r) : Ev (fun k => if c then a k else b k) r := by
 by_cases h : c
 ·
  exact ev_pos h (h1 h)
 ·
  exact ev_neg h (h2 h)
theorem good_iff (s : ByteArray) (n : Nat) : good s n = true ↔ (97 ≤ bt s n ∧ bt s n ≤ 122) ∨ ((48 ≤ bt s n ∧ bt s n ≤ 57) ∧ 0 < n) ∨ ((bt s n = 45 ∨ bt s n = 46 ∨ bt s n = 47) ∧ 0 < n ∧ n + 1 < s.size) := by
  simp [good, or_assoc]
theorem refName_l0 (s : ByteArray) (hs : s.size ≤ 32) : ∀ m n : Nat, n + m = s.size → Ev (fun k => berthref02_IsName.l0 k s (n : Int)) (goodFrom s n m) := by
  intro m
  induction m with
  | zero =>
    intro n h
    exact Ev.step (fun k => berthref02_IsName.l0.eq_2 _ _ k) (ev_neg (by omega) (ev_some _))
  | succ m ih =>
    intro n h
    have E := ih (n + 1) (by omega)
    rw [← w64_succ (by omega)] at E
    have hw : wrap64 ((s.size : Int) - 1) = (s.size : Int) - 1 := w64 (by omega) (by omega)
    have go : good s n = true → Ev (fun k => berthref02_IsName.l0 k s (wrap64 ((n : Int) + 1))) (goodFrom s n (m + 1)) := fun hg => by
      show Ev _ (good s n && goodFrom s (n + 1) m)
      rw [hg, Bool.true_and]; exact E
    have no : ¬ good s n = true → Ev (fun _ : Nat => some false) (goodFrom s n (m + 1)) := fun hg => by
      show Ev _ (good s n && goodFrom s (n + 1) m)
      rw [Bool.eq_false_iff.mpr hg, Bool.false_and]; exact ev_some _
    rw [good_iff] at go no
    refine Ev.step (fun k => berthref02_IsName.l0.eq_2 _ _ k) (ev_pos (by omega) (ev_pos (by omega) ?_))
    rw [hw]
    generalize bt s (n : Int) = c at go no ⊢
    repeat' (first | exact go (by omega) | exact no (by omega) | refine ev_ite (fun h_ => ?_) (fun h_ => ?_))
theorem refName_ev (s : ByteArray) : Ev (fun k => berthref02_IsName.f k s) (isN s) := by
 unfold berthref02_IsName.f
 by_cases h : (s.size : Int) < 1
 ·
  refine ev_pos h (Ev.step (fun k => berthref02_IsName.j0.eq_2 _ _ k) (ev_pos rfl (ev_some' ?_)))
  have : ¬ (1 ≤ s.size) := by omega
  simp [isN, this]
 ·
  refine ev_neg h (Ev.step (fun k => berthref02_IsName.j0.eq_2 _ _ k) ?_)
  by_cases h2 : (s.size : Int) > 32
  ·
   refine ev_pos (by simpa using h2) (ev_some' ?_)
   have : ¬ (s.size ≤ 32) := by omega
   simp [isN, this]
  ·
   refine ev_neg (by simpa using h2) ?_
   have e := refName_l0 s (by omega) s.size 0 (by omega)
   have : 1 ≤ s.size ∧ s.size ≤ 32 := by omega
   simpa [isN, this] using e
theorem isN_size {s : ByteArray} (h : isN s = true) : 0 < s.size := by
  simp [isN] at h; omega
theorem refCheck_l0 (xs : List S28) (hs : xs.length ≤ 16) : ∀ m n : Nat, n + m = xs.length → Ev (fun k => berthref02_Check.l0 k xs (n : Int)) (chkL (prev xs n) (xs.drop n)) := by
 intro m
 induction m with
 | zero =>
  intro n h
  refine Ev.step (fun k => berthref02_Check.l0.eq_2 _ _ k) (ev_neg (by omega) (ev_some' ?_))
  rw [List.drop_eq_nil_of_le (by omega)]; rfl
 | succ m ih =>
  intro n h
  have hn : n < xs.length := by omega
  have e := List.drop_eq_getElem_cons hn
  refine Ev.step (fun k => berthref02_Check.l0.eq_2 _ _ k) (ev_pos (by omega) (ev_pos (by omega) ?_))
  rw [e]
  simp only [rd_at hn]
  refine Ev.bind (refName_ev _) ?_
  by_cases h1 : isN xs[n].f0 = true
  ·
   refine ev_pos h1 ?_
   by_cases h2 : xs[n].f1 ≤ 0
   ·
    refine ev_pos h2 (ev_some' ?_)
    simp [chkL, h1, h2]
   ·
    refine ev_neg h2 ?_
    by_cases h3 : n = 0
    ·
     subst h3
     refine ev_neg (by simp) ?_
     have := ih 1 (by omega)
     rw [w64_succ (by omega)]
     rw [prev_succ hn] at this
     simpa [chkL, h1, h2, prev] using this
    ·
     have hp : n - 1 < xs.length := by omega
     refine ev_pos (by omega) ?_
     rw [w64_pred (by omega) (by omega)]
     refine ev_pos (by omega) (ev_pos (by omega) ?_)
     simp only [rd_at hp]
     have hpv : prev xs n = some xs[n - 1] := by simp [prev, h3, hp]
     by_cases h4 : blt xs[n - 1].f0 xs[n].f0 = true
     ·
      refine ev_pos h4 ?_
      have := ih (n + 1) (by omega)
      rw [w64_succ (by omega)]
      rw [prev_succ hn] at this
      simpa [chkL, h1, h2, hpv, h4] using this
     ·
      refine ev_neg h4 (ev_some' ?_)
      simp [chkL, h1, h2, hpv, h4]
  ·
   refine ev_neg h1 (ev_some' ?_)
   simp [chkL, h1]
theorem refCheck_ev (xs : List S28) : Ev (fun k => berthref02_Check.f k xs) (chk xs) := by
 unfold berthref02_Check.f
 by_cases h : (xs.length : Int) > 16
 ·
  refine ev_pos h (ev_some' ?_)
  have : xs.length > 16 := by omega
  simp [chk, this]
 ·
  refine ev_neg h ?_
  have h' : ¬ xs.length > 16 := by omega
  have := refCheck_l0 xs (by omega) xs.length 0 (by omega)
  simpa [chk, h', prev] using this
def plc : Nat → List S28 → ByteArray → Int
  | _, [], _ => -1
  | n, x :: r, nm => if x.f0 = nm then (n : Int) else plc (n + 1) r nm
theorem place_l0 (xs : List S28) (nm : ByteArray) (hs : xs.length ≤ 1000) : ∀ m n : Nat, n + m = xs.length → Ev (fun k => berthref02_place.l0 k xs nm (n : Int)) (plc n (xs.drop n) nm) := by
 intro m
 induction m with
 | zero =>
  intro n h
  refine Ev.step (fun k => berthref02_place.l0.eq_2 _ _ _ k) (ev_neg (by omega) (ev_some' ?_))
  rw [List.drop_eq_nil_of_le (by omega)]; rfl
 | succ m ih =>
  intro n h
  have hn : n < xs.length := by omega
  refine Ev.step (fun k => berthref02_place.l0.eq_2 _ _ _ k) (ev_pos (by omega) (ev_pos (by omega) ?_))
  rw [List.drop_eq_getElem_cons hn]
  simp only [rd_at hn, toList_inj]
  by_cases h1 : xs[n].f0 = nm
  ·
   refine ev_pos h1 (ev_some' ?_)
   simp [plc, h1]
  ·
   refine ev_neg h1 ?_
   rw [w64_succ (by omega)]
   simpa [plc, h1] using ih (n + 1) (by omega)
theorem place_ev (xs : List S28) (nm : ByteArray) (hs : xs.length ≤ 1000) : Ev (fun k => berthref02_place.f k xs nm) (plc 0 xs nm) := by
  have := place_l0 xs nm hs xs.length 0 (by omega)
  simpa [berthref02_place.f] using this
theorem plc_spec : ∀ {xs : List S28} {n : Nat} {nm : ByteArray}, (plc n xs nm = -1 ∧ (∀ x ∈ xs, x.f0 ≠ nm) ∧ get xs nm = 0) ∨ ∃ i, ∃ h : i < xs.length, plc n xs nm = ((n + i : Nat) : Int) ∧ xs[i].f0 = nm ∧ get xs nm = xs[i].f1
  | [], n, nm => Or.inl ⟨rfl, fun x hx => by simp at hx, rfl⟩
  | x :: r, n, nm => by
    unfold plc get
    by_cases e : x.f0 = nm
    · rw [if_pos e, if_pos e]
      exact Or.inr ⟨0, by simp, rfl, e, rfl⟩
    · rw [if_neg e, if_neg e]
      rcases plc_spec (xs := r) (n := n + 1) (nm := nm) with ⟨h1, h2, h3⟩ | ⟨i, hi, h1, h2, h3⟩
      · refine Or.inl ⟨h1, fun y hy => ?_, h3⟩
        rcases List.mem_cons.1 hy with rfl | hy
        · exact e
        · exact h2 y hy
      · exact Or.inr ⟨i + 1, by simpa using hi, by rw [h1]; congr 1; omega, h2, h3⟩
theorem refGet_ev (xs : List S28) (nm : ByteArray) (hs : xs.length ≤ 1000) : Ev (fun k => berthref02_Get.f k xs nm) (get xs nm) := by
 unfold berthref02_Get.f
 refine Ev.bind (place_ev xs nm hs) ?_
 rcases plc_spec (xs := xs) (n := 0) (nm := nm) with ⟨h1, h2, h3⟩ | ⟨i, hi, h1, h2, h3⟩
 ·
  rw [h1, h3]; exact ev_pos (by decide) (ev_some _)
 ·
  rw [h1, h3, Nat.zero_add]
  refine ev_neg (by omega) (ev_pos (by omega) (ev_pos (by omega) (ev_some' ?_)))
  rw [rd_at hi]
def nought (x : S28) : S28 := ⟨x.f0, 0⟩
def fresh (a : List S28) (b : List S28) : List S28 := b.filter fun y => decide (∀ x ∈ a, x.f0 ≠ y.f0)
def bothR (a b : List S28) : List S28 := a.map nought ++ (fresh a b).map nought
theorem refBoth_l1 (a b : List S28) (la : a.length ≤ 16) (lb : b.length ≤ 16) : ∀ m n : Nat, ∀ acc : List S28, n + m = b.length → acc.length ≤ 16 + n → Ev (fun k => berthref02_both.l1 k a b acc (n : Int)) (acc ++ (fresh a (b.drop n)).map nought) := by
 intro m
 induction m with
 | zero =>
  intro n acc h _
  refine Ev.step (fun k => berthref02_both.l1.eq_2 _ _ _ _ k) (ev_neg (by omega) (ev_some' ?_))
  rw [List.drop_eq_nil_of_le (by omega)]; simp [fresh]
 | succ m ih =>
  intro n acc h hacc
  have hn : n < b.length := by omega
  refine Ev.step (fun k => berthref02_both.l1.eq_2 _ _ _ _ k) (ev_pos (by omega) (ev_pos (by omega) ?_))
  rw [List.drop_eq_getElem_cons hn]
  simp only [rd_at hn]
  refine Ev.bind (place_ev a _ (by omega)) ?_
  rcases plc_spec (xs := a) (n := 0) (nm := b[n].f0) with ⟨h1, h2, h3⟩ | ⟨i, hi, h1, h2, h3⟩
  ·
   refine ev_pos (by rw [h1]; decide) (ev_pos (by omega) ?_)
   rw [w64_succ (by omega)]
   have := ih (n + 1) (acc ++ [nought b[n]]) (by omega) (by simp; omega)
   rw [show fresh a (b[n] :: b.drop (n + 1)) = b[n] :: fresh a (b.drop (n + 1)) from List.filter_cons_of_pos (decide_eq_true h2)]
   rw [List.map_cons]
   rw [List.append_assoc] at this
   exact this
  ·
   refine ev_neg (by rw [h1]; omega) ?_
   rw [w64_succ (by omega)]
   have := ih (n + 1) acc (by omega) (by omega)
   rw [show fresh a (b[n] :: b.drop (n + 1)) = fresh a (b.drop (n + 1)) from List.filter_cons_of_neg (fun h => (of_decide_eq_true h) a[i] (List.getElem_mem hi) h2)]
   exact this
theorem refBoth_l0 (a b : List S28) (la : a.length ≤ 16) (lb : b.length ≤ 16) : ∀ m n : Nat, ∀ acc : List S28, n + m = a.length → acc.length = n → Ev (fun k => berthref02_both.l0 k a b acc (n : Int)) (acc ++ (a.drop n).map nought ++ (fresh a b).map nought) := by
  intro m
  induction m with
  | zero =>
    intro n acc h hacc
    refine Ev.step (fun k => berthref02_both.l0.eq_2 _ _ _ _ k) (ev_neg (by omega) ?_)
    have := refBoth_l1 a b la lb b.length 0 acc (by omega) (by omega)
    rw [List.drop_eq_nil_of_le (by omega)]
    simpa using this
  | succ m ih =>
    intro n acc h hacc
    have hn : n < a.length := by omega
    refine Ev.step (fun k => berthref02_both.l0.eq_2 _ _ _ _ k) (ev_pos (by omega) (ev_pos (by omega) (ev_pos (by omega) ?_)))
    rw [List.drop_eq_getElem_cons hn, w64_succ (by omega)]
    simp only [rd_at hn]
    have := ih (n + 1) (acc ++ [nought a[n]]) (by omega) (by simp [hacc])
    rw [List.append_assoc acc] at this
    rw [List.map_cons]
    exact this
theorem refBoth_ev {a b : List S28} (la : a.length ≤ 16) (lb : b.length ≤ 16) : Ev (fun k => berthref02_both.f k a b) (bothR a b) := by
  have := refBoth_l0 a b la lb a.length 0 [] (by omega) rfl
  simpa [berthref02_both.f, bothR] using this
theorem bothR_mem {a b : List S28} {nm : ByteArray} : (∃ x ∈ bothR a b, x.f0 = nm) ↔ nm ∈ mrg a b := by
 rw [mrg_mem]
 unfold bothR
 simp only [List.mem_append, List.mem_map]
 constructor
 ·
  rintro ⟨x, ⟨y, hy, rfl⟩ | ⟨y, hy, rfl⟩, e⟩
  ·
   exact Or.inl ⟨y, hy, e⟩
  ·
   exact Or.inr ⟨y, (List.mem_filter.1 hy).1, e⟩
 ·
  rintro (⟨x, hx, e⟩ | ⟨y, hy, e⟩)
  ·
   exact ⟨nought x, Or.inl ⟨x, hx, rfl⟩, e⟩
  ·
   by_cases h : ∀ x ∈ a, x.f0 ≠ y.f0
   ·
    exact ⟨nought y, Or.inr ⟨y, List.mem_filter.2 ⟨hy, decide_eq_true h⟩, rfl⟩, e⟩
   ·
    have : ∃ x, x ∈ a ∧ x.f0 = y.f0 := by
     refine Classical.byContradiction fun hn => h fun x hx e' => hn ⟨x, hx, e'⟩
    obtain ⟨x, hx, e'⟩ := this
    exact ⟨nought x, Or.inl ⟨x, hx, rfl⟩, e'.trans e⟩
def Lone : List S28 → Prop := List.Pairwise (fun x y => x.f0 ≠ y.f0)
theorem up_lone {l : List S28} (h : Up l) : Lone l := List.Pairwise.imp (fun h => blt_ne h) h
theorem bothR_lone {a b : List S28} (ha : Up a) (hb : Up b) : Lone (bothR a b) := by
 unfold bothR Lone
 rw [List.pairwise_append]
 refine ⟨?_, ?_, ?_⟩
 ·
  rw [List.pairwise_map]; exact up_lone ha
 ·
  rw [List.pairwise_map]; exact List.Pairwise.filter _ (up_lone hb)
 ·
  intro x hx y hy
  obtain ⟨z, hz, rfl⟩ := List.mem_map.1 hx
  obtain ⟨w, hw, rfl⟩ := List.mem_map.1 hy
  exact (of_decide_eq_true (List.mem_filter.1 hw).2) z hz
theorem lone_len {l : List S28} (hl : Lone l) {ns : List ByteArray} (hn : UpN ns) (h : ∀ nm, (∃ x ∈ l, x.f0 = nm) ↔ nm ∈ ns) : l.length = ns.length := by
  have h1 : (l.map S28.f0).Nodup := by
    rw [List.nodup_iff_pairwise_ne, List.pairwise_map]; exact hl
  have h2 : ns.Nodup := by
    rw [List.nodup_iff_pairwise_ne]; exact List.Pairwise.imp (fun h => blt_ne h) hn
  have h3 := (List.perm_ext_iff_of_nodup h1 h2).2 (fun nm => by
    rw [List.mem_map]
    exact h nm)
  have := h3.length_eq
  simpa using this
end Go.Proofs.Ytbibnendaddbhaa.Q
