/- Rising lists of names and of items; what the printed both, Add and Sub of the amounts come to. No Go in sight. -/
import Derived.Test.YtbibnendaddbhaazSumsm4
import Derived.Test.YtbibnendaddbhaazSumsm5
import Derived.Test.YtbibnendaddbhaazSumsm18
import Derived.Test.YtbibnendaddbhaazSumsm20
set_option linter.unusedVariables false
namespace Go.Proofs.Ytbibnendaddbhaa.Q
open Go.RowKit Go.Proofs.YtbibnendaddbhaaW.PrintWords Go.Proofs.YtbibnendaddbhaaW.PrintLast Go.Proofs.YtbibnendaddbhaaW.PrintMore Go.Proofs.YtbibnendaddbhaaP Go.Proofs.Ytbibnendaddbhaa.All
def Up : List S28 → Prop := List.Pairwise (fun x y => blt x.f0 y.f0 = true)
theorem up_ext : ∀ {l m : List S28}, Up l → Up m → (∀ x, x ∈ l ↔ x ∈ m) → l = m
 | [], [], _, _, _ => rfl
 | [], y :: m, _, _, h => absurd ((h y).2 (by simp)) (by simp)
 | x :: l, [], _, _, h => absurd ((h x).1 (by simp)) (by simp)
 | x :: l, y :: m, hl, hm, h => by
  have hl' := List.pairwise_cons.1 hl
  have hm' := List.pairwise_cons.1 hm
  have e : x = y := by
   rcases List.mem_cons.1 ((h x).1 (by simp)) with e | hx
   ·
    exact e
   ·
    rcases List.mem_cons.1 ((h y).2 (by simp)) with e | hy
    ·
     exact e.symm
    ·
     have h1 := hm'.1 x hx
     have h2 := hl'.1 y hy
     rw [blt_asymm h1] at h2
     exact absurd h2 (by simp)
  subst e
  congr 1
  refine up_ext hl'.2 hm'.2 (fun z => ⟨fun hz => ?_, fun hz => ?_⟩)
  ·
   rcases List.mem_cons.1 ((h z).1 (List.mem_cons_of_mem _ hz)) with e | h'
   ·
    subst e
    have := hl'.1 z hz
    rw [blt_irrefl] at this
    exact absurd this (by simp)
   ·
    exact h'
  ·
   rcases List.mem_cons.1 ((h z).2 (List.mem_cons_of_mem _ hz)) with e | h'
   ·
    subst e
    have := hm'.1 z hz
    rw [blt_irrefl] at this
    exact absurd this (by simp)
   ·
    exact h'
theorem rises_up : ∀ {l : List S28} {p : Option S28}, Rises p l → Up l
  | [], _, _ => List.Pairwise.nil
  | x :: r, p, h => List.Pairwise.cons (fun y hy => rises_head h.2.2.2 y hy) (rises_up h.2.2.2)
theorem get_mem {l : List S28} (hu : Up l) : ∀ {x : S28}, x ∈ l → get l x.f0 = x.f1 := by
 intro x hx
 induction l with
 | nil => simp at hx
 | cons y r ih =>
  have hu' := List.pairwise_cons.1 hu
  unfold get
  rcases List.mem_cons.1 hx with rfl | h
  ·
   rw [if_pos rfl]
  ·
   rw [if_neg (blt_ne (hu'.1 x h))]
   exact ih hu'.2 h
theorem get_some : ∀ {l : List S28} {nm : ByteArray}, get l nm ≠ 0 → ∃ x ∈ l, x.f0 = nm ∧ get l nm = x.f1
  | [], _, h => absurd rfl h
  | y :: r, nm, h => by
    unfold get at h ⊢
    by_cases e : y.f0 = nm
    · rw [if_pos e]; exact ⟨y, by simp, e, rfl⟩
    · rw [if_neg e] at h ⊢
      obtain ⟨x, hx, h1, h2⟩ := get_some h
      exact ⟨x, List.mem_cons_of_mem _ hx, h1, h2⟩
def mrg : List S28 → List S28 → List ByteArray
  | [], [] => []
  | [], y :: b => y.f0 :: mrg [] b
  | x :: a, [] => x.f0 :: mrg a []
  | x :: a, y :: b => if blt x.f0 y.f0 = true then x.f0 :: mrg a (y :: b) else if blt y.f0 x.f0 = true then y.f0 :: mrg (x :: a) b else x.f0 :: mrg a b
termination_by a b => a.length + b.length
theorem both_l0 : ∀ (m : Nat) (a b : List S28) (acc : List ByteArray), a.length + b.length = m → m + acc.length ≤ 1000 → Ev (fun k => quant_both.l0 k a b acc) (acc ++ mrg a b) := by
 intro m
 induction m using Nat.strongRecOn with
 | _ m ih =>
  intro a b acc hm hacc
  have z0 : ∀ (x : S28) (r : List S28), rd_T28 (x :: r) 0 = x := fun x r => rfl
  refine Ev.step (fun k => quant_both.l0.eq_2 _ _ _ k) ?_
  cases a with
  | nil =>
   refine ev_neg (by simp) (Ev.step (fun k => quant_both.j1.eq_2 _ _ _ _ k) ?_)
   cases b with
   | nil => exact ev_neg (by simp) (ev_some' (by simp [mrg]))
   | cons y b =>
    refine ev_pos (by simp <;> omega) (ev_neg (by simp <;> omega) (ev_neg (by simp) (Ev.step (fun k => quant_both.j2.eq_2 _ _ _ _ k) (ev_neg (by simp) (ev_pos (by simp) (ev_pos (by simp <;> omega) (ev_pos (by simp at hacc hm ⊢; omega) (ev_pos (by simp <;> omega) ?_))))))))
    rw [z0]
    have := ih b.length (by simp at hm; omega) [] b (acc ++ [y.f0]) (by simp) (by simp at hm hacc ⊢; omega)
    simpa [mrg] using this
  | cons x a =>
   refine ev_pos (by simp <;> omega) (Ev.step (fun k => quant_both.j1.eq_2 _ _ _ _ k) (ev_pos rfl ?_))
   cases b with
   | nil =>
    refine ev_pos (by simp) (Ev.step (fun k => quant_both.j2.eq_2 _ _ _ _ k) (ev_pos rfl (ev_pos (by simp <;> omega) (ev_pos (by simp at hacc hm ⊢; omega) (ev_pos (by simp <;> omega) ?_)))))
    rw [z0]
    have := ih a.length (by simp at hm; omega) a [] (acc ++ [x.f0]) (by simp) (by simp at hm hacc ⊢; omega)
    simpa [mrg] using this
   | cons y b =>
    refine ev_neg (by simp <;> omega) (ev_pos (by simp <;> omega) (ev_pos (by simp <;> omega) (ev_pos (by simp <;> omega) (Ev.step (fun k => quant_both.j2.eq_2 _ _ _ _ k) ?_))))
    rw [z0, z0]
    by_cases h1 : blt x.f0 y.f0 = true
    ·
     refine ev_pos h1 (ev_pos (by simp <;> omega) (ev_pos (by simp at hacc hm ⊢; omega) (ev_pos (by simp <;> omega) ?_)))
     have := ih (a.length + (y :: b).length) (by simp at hm ⊢; omega) a (y :: b) (acc ++ [x.f0]) rfl (by simp at hm hacc ⊢; omega)
     simpa [mrg, h1] using this
    ·
     refine ev_neg h1 (ev_neg (by simp <;> omega) (ev_pos (by simp <;> omega) (ev_pos (by simp <;> omega) ?_)))
     by_cases h2 : blt y.f0 x.f0 = true
     ·
      refine ev_pos h2 (ev_pos (by simp at hacc hm ⊢; omega) (ev_pos (by simp <;> omega) ?_))
      have := ih ((x :: a).length + b.length) (by simp at hm ⊢; omega) (x :: a) b (acc ++ [y.f0]) rfl (by simp at hm hacc ⊢; omega)
      simpa [mrg, h1, h2] using this
     ·
      refine ev_neg h2 (ev_pos (by simp at hacc hm ⊢; omega) (ev_pos (by simp <;> omega) (ev_pos (by simp <;> omega) ?_)))
      have := ih (a.length + b.length) (by simp at hm ⊢; omega) a b (acc ++ [x.f0]) rfl (by simp at hm hacc ⊢; omega)
      simpa [mrg, h1, h2] using this
theorem both_ev {a b : List S28} (ha : a.length ≤ 16) (hb : b.length ≤ 16) : Ev (fun k => quant_both.f k a b) (mrg a b) := by
  have := both_l0 (a.length + b.length) a b [] rfl (by simp <;> omega)
  simpa [quant_both.f] using this
theorem mrg_mem : ∀ (a b : List S28) (nm : ByteArray), nm ∈ mrg a b ↔ (∃ x ∈ a, x.f0 = nm) ∨ ∃ y ∈ b, y.f0 = nm
  | [], [], nm => by simp [mrg]
  | [], y :: b, nm => by
    have := mrg_mem [] b nm
    simp only [mrg, List.mem_cons, this]
    simp only [List.not_mem_nil, false_and, exists_false, false_or]
    constructor
    · rintro (rfl | ⟨z, hz, rfl⟩)
      · exact ⟨y, Or.inl rfl, rfl⟩
      · exact ⟨z, Or.inr hz, rfl⟩
    · rintro ⟨z, rfl | hz, rfl⟩
      · exact Or.inl rfl
      · exact Or.inr ⟨z, hz, rfl⟩
  | x :: a, [], nm => by
    have := mrg_mem a [] nm
    simp only [mrg, List.mem_cons, this]
    simp only [List.not_mem_nil, false_and, exists_false, or_false]
    constructor
    · rintro (rfl | ⟨z, hz, rfl⟩)
      · exact ⟨x, Or.inl rfl, rfl⟩
      · exact ⟨z, Or.inr hz, rfl⟩
    · rintro ⟨z, rfl | hz, rfl⟩
      · exact Or.inl rfl
      · exact Or.inr ⟨z, hz, rfl⟩
  | x :: a, y :: b, nm => by
    unfold mrg
    by_cases h1 : blt x.f0 y.f0 = true
    · rw [if_pos h1, List.mem_cons, mrg_mem a (y :: b) nm]
      simp only [List.mem_cons]
      constructor
      · rintro (rfl | ⟨z, hz, rfl⟩ | h)
        · exact Or.inl ⟨x, Or.inl rfl, rfl⟩
        · exact Or.inl ⟨z, Or.inr hz, rfl⟩
        · exact Or.inr h
      · rintro (⟨z, rfl | hz, rfl⟩ | h)
        · exact Or.inl rfl
        · exact Or.inr (Or.inl ⟨z, hz, rfl⟩)
        · exact Or.inr (Or.inr h)
    · rw [if_neg h1]
      by_cases h2 : blt y.f0 x.f0 = true
      · rw [if_pos h2, List.mem_cons, mrg_mem (x :: a) b nm]
        simp only [List.mem_cons]
        constructor
        · rintro (rfl | h | ⟨z, hz, rfl⟩)
          · exact Or.inr ⟨y, Or.inl rfl, rfl⟩
          · exact Or.inl h
          · exact Or.inr ⟨z, Or.inr hz, rfl⟩
        · rintro (h | ⟨z, rfl | hz, rfl⟩)
          · exact Or.inr (Or.inl h)
          · exact Or.inl rfl
          · exact Or.inr (Or.inr ⟨z, hz, rfl⟩)
      · have e : x.f0 = y.f0 := blt_total (by simpa using h1) (by simpa using h2)
        rw [if_neg h2, List.mem_cons, mrg_mem a b nm]
        simp only [List.mem_cons]
        constructor
        · rintro (rfl | ⟨z, hz, rfl⟩ | ⟨z, hz, rfl⟩)
          · exact Or.inl ⟨x, Or.inl rfl, rfl⟩
          · exact Or.inl ⟨z, Or.inr hz, rfl⟩
          · exact Or.inr ⟨z, Or.inr hz, rfl⟩
        · rintro (⟨z, rfl | hz, rfl⟩ | ⟨z, rfl | hz, rfl⟩)
          · exact Or.inl rfl
          · exact Or.inr (Or.inl ⟨z, hz, rfl⟩)
          · exact Or.inl e.symm
          · exact Or.inr (Or.inr ⟨z, hz, rfl⟩)
termination_by a b => a.length + b.length
def UpN : List ByteArray → Prop := List.Pairwise (fun x y => blt x y = true)
theorem mrg_up : ∀ (a b : List S28), Up a → Up b → UpN (mrg a b)
  | [], [], _, _ => by simp [mrg, UpN]
  | [], y :: b, _, hb => by
    have hb' := List.pairwise_cons.1 hb
    unfold mrg
    refine List.Pairwise.cons (fun z hz => ?_) (mrg_up [] b List.Pairwise.nil hb'.2)
    rcases (mrg_mem _ _ _).1 hz with ⟨w, hw, rfl⟩ | ⟨w, hw, rfl⟩
    · simp at hw
    · exact hb'.1 w hw
  | x :: a, [], ha, _ => by
    have ha' := List.pairwise_cons.1 ha
    unfold mrg
    refine List.Pairwise.cons (fun z hz => ?_) (mrg_up a [] ha'.2 List.Pairwise.nil)
    rcases (mrg_mem _ _ _).1 hz with ⟨w, hw, rfl⟩ | ⟨w, hw, rfl⟩
    · exact ha'.1 w hw
    · simp at hw
  | x :: a, y :: b, ha, hb => by
    have ha' := List.pairwise_cons.1 ha
    have hb' := List.pairwise_cons.1 hb
    unfold mrg
    by_cases h1 : blt x.f0 y.f0 = true
    · rw [if_pos h1]
      refine List.Pairwise.cons (fun z hz => ?_) (mrg_up a (y :: b) ha'.2 hb)
      rcases (mrg_mem _ _ _).1 hz with ⟨w, hw, rfl⟩ | ⟨w, hw, rfl⟩
      · exact ha'.1 w hw
      · rcases List.mem_cons.1 hw with rfl | hw
        · exact h1
        · exact blt_trans h1 (hb'.1 w hw)
    · rw [if_neg h1]
      by_cases h2 : blt y.f0 x.f0 = true
      · rw [if_pos h2]
        refine List.Pairwise.cons (fun z hz => ?_) (mrg_up (x :: a) b ha hb'.2)
        rcases (mrg_mem _ _ _).1 hz with ⟨w, hw, rfl⟩ | ⟨w, hw, rfl⟩
        · rcases List.mem_cons.1 hw with rfl | hw
          · exact h2
          · exact blt_trans h2 (ha'.1 w hw)
        · exact hb'.1 w hw
      · have e : x.f0 = y.f0 := blt_total (by simpa using h1) (by simpa using h2)
        rw [if_neg h2]
        refine List.Pairwise.cons (fun z hz => ?_) (mrg_up a b ha'.2 hb'.2)
        rcases (mrg_mem _ _ _).1 hz with ⟨w, hw, rfl⟩ | ⟨w, hw, rfl⟩
        · exact ha'.1 w hw
        · rw [e]; exact hb'.1 w hw
termination_by a b => a.length + b.length
theorem mrg_len (a b : List S28) : (mrg a b).length ≤ a.length + b.length := by
  induction a, b using mrg.induct with
  | case1 => simp [mrg]
  | case2 y b ih => simp [mrg] at ih ⊢; omega
  | case3 x a ih => simp [mrg] at ih ⊢; omega
  | case4 x a y b h ih => unfold mrg; rw [if_pos h]; simp at ih ⊢; omega
  | case5 x a y b h1 h2 ih => unfold mrg; rw [if_neg h1, if_pos h2]; simp at ih ⊢; omega
  | case6 x a y b h1 h2 ih => unfold mrg; rw [if_neg h1, if_neg h2]; simp at ih ⊢; omega
def sums (a b : List S28) (nm : ByteArray) : S28 := ⟨nm, get a nm + get b nm⟩
def over (a b : List S28) (nm : ByteArray) : Prop := 9223372036854775807 < get a nm + get b nm
instance (a b : List S28) (nm : ByteArray) : Decidable (over a b nm) := inferInstanceAs (Decidable (_ < _))
def addL (a b : List S28) (acc : List S28) : List ByteArray → List S28 × ByteArray × Int
  | [] => (acc, ⟨#[]⟩, 0)
  | nm :: r => if over a b nm then ([], nm, 28) else addL a b (acc ++ [sums a b nm]) r
def Amt (a : List S28) : Prop := ∀ nm, 0 ≤ get a nm ∧ get a nm ≤ 9223372036854775807
theorem rdB_at {xs : List ByteArray} {n : Nat} (h : n < xs.length) : rdOf ByteArray.empty xs (n : Int) = xs[n] := by simp [rdOf, h]
theorem add_l0 (a b : List S28) (la : a.length ≤ 16) (lb : b.length ≤ 16) (ha : Amt a) (hb : Amt b) (ns : List ByteArray) (hs : ns.length ≤ 16) : ∀ (m n : Nat) (acc : List S28), n + m = ns.length → acc.length = n → Ev (fun k => quant_Add.l0 k a b acc ns (ns.length : Int) (n : Int)) (addL a b acc (ns.drop n)) := by
 intro m
 induction m with
 | zero =>
  intro n acc h _
  refine Ev.step (fun k => quant_Add.l0.eq_2 _ _ _ _ _ _ k) (ev_neg (by omega) (ev_some' ?_))
  rw [List.drop_eq_nil_of_le (by omega)]; rfl
 | succ m ih =>
  intro n acc h hacc
  have hn : n < ns.length := by omega
  refine Ev.step (fun k => quant_Add.l0.eq_2 _ _ _ _ _ _ k) (ev_pos (by omega) (ev_pos (by omega) (ev_pos (by omega) ?_)))
  rw [List.drop_eq_getElem_cons hn]
  simp only [rdB_at hn]
  refine Ev.bind (get_ev a _ (by omega)) (Ev.bind (get_ev b _ (by omega)) ?_)
  have h1 := ha ns[n]
  have h2 := hb ns[n]
  rw [w64 (n := 9223372036854775807 - get b ns[n]) (by omega) (by omega)]
  by_cases h3 : over a b ns[n]
  ·
   have h3' : 9223372036854775807 < get a ns[n] + get b ns[n] := h3
   refine ev_pos (by omega) (ev_some' ?_)
   simp [addL, h3]
  ·
   have h3' : ¬ 9223372036854775807 < get a ns[n] + get b ns[n] := h3
   refine ev_neg (by omega) (ev_pos (by omega) ?_)
   rw [w64 (n := get a ns[n] + get b ns[n]) (by omega) (by omega), w64_succ (by omega)]
   have := ih (n + 1) (acc ++ [sums a b ns[n]]) (by omega) (by simp [hacc])
   simpa [addL, h3, sums] using this
def add (a b : List S28) : List S28 × ByteArray × Int := if orL [chk a, chk b] = 0 then (if (mrg a b).length > 16 then ([], ⟨#[]⟩, 27) else addL a b [] (mrg a b)) else ([], ⟨#[]⟩, orL [chk a, chk b])
theorem add_ev {a b : List S28} (ha : chk a = 0 → Amt a) (hb : chk b = 0 → Amt b) : Ev (fun k => quant_Add.f k a b) (add a b) := by
 unfold quant_Add.f
 refine Ev.bind (check_ev a) (Ev.bind (check_ev b) (Ev.bind (or_ev _ (by simp)) ?_))
 unfold add
 by_cases h : orL [chk a, chk b] = 0
 ·
  have hab := orL_zero.1 h
  have h1 := chk_zero.1 (hab (chk a) (by simp))
  have h2 := chk_zero.1 (hab (chk b) (by simp))
  refine ev_pos h (Ev.bind (both_ev h1.1 h2.1) ?_)
  rw [if_pos h]
  by_cases h3 : (mrg a b).length > 16
  ·
   rw [if_pos h3]; exact ev_pos (by omega) (ev_some _)
  ·
   rw [if_neg h3]
   refine ev_neg (by omega) (ev_pos (by omega) (ev_pos (by omega) ?_))
   have := add_l0 a b h1.1 h2.1 (ha (hab _ (by simp))) (hb (hab _ (by simp))) (mrg a b) (by omega) (mrg a b).length 0 [] (by omega) rfl
   simpa using this
 ·
  refine ev_neg h ?_
  rw [if_neg h]
  exact ev_some _
theorem addL_ok {a b : List S28} : ∀ {ns : List ByteArray} {acc : List S28}, (∀ nm ∈ ns, ¬ over a b nm) → addL a b acc ns = (acc ++ ns.map (sums a b), ⟨#[]⟩, 0)
  | [], acc, _ => by simp [addL]
  | nm :: r, acc, h => by
    unfold addL
    rw [if_neg (h nm (by simp)), addL_ok (fun z hz => h z (List.mem_cons_of_mem _ hz))]
    simp
theorem addL_bad {a b : List S28} : ∀ {ns : List ByteArray} {acc : List S28}, UpN ns → (∃ nm ∈ ns, over a b nm) → ∃ nm ∈ ns, over a b nm ∧ (∀ z ∈ ns, over a b z → z = nm ∨ blt nm z = true) ∧ addL a b acc ns = ([], nm, 28)
 | [], _, _, h => by obtain ⟨_, h, _⟩ := h; simp at h
 | nm :: r, acc, hu, h => by
  have hu' := List.pairwise_cons.1 hu
  unfold addL
  by_cases h1 : over a b nm
  ·
   rw [if_pos h1]
   refine ⟨nm, by simp, h1, fun z hz _ => ?_, rfl⟩
   rcases List.mem_cons.1 hz with rfl | hz
   ·
    exact Or.inl rfl
   ·
    exact Or.inr (hu'.1 z hz)
  ·
   rw [if_neg h1]
   obtain ⟨w, hw, how⟩ := h
   have hw' : w ∈ r := by
    rcases List.mem_cons.1 hw with rfl | hw
    ·
     exact absurd how h1
    ·
     exact hw
   obtain ⟨z, hz, h2, h3, h4⟩ := addL_bad (acc := acc ++ [sums a b nm]) hu'.2 ⟨w, hw', how⟩
   refine ⟨z, List.mem_cons_of_mem _ hz, h2, fun y hy hoy => ?_, h4⟩
   rcases List.mem_cons.1 hy with rfl | hy
   ·
    exact absurd hoy h1
   ·
    exact h3 y hy hoy
def diff (a b : List S28) (nm : ByteArray) : S28 := ⟨nm, get a nm - get b nm⟩
def subL (a b : List S28) (acc : List S28) : List ByteArray → List S28 × ByteArray × Int
  | [] => (acc, ⟨#[]⟩, 0)
  | nm :: r => if get a nm < get b nm then ([], nm, 29) else subL a b (if get b nm < get a nm then acc ++ [diff a b nm] else acc) r
theorem sub_l0 (a b : List S28) (la : a.length ≤ 16) (lb : b.length ≤ 16) (ha : Amt a) (hb : Amt b) (ns : List ByteArray) (hs : ns.length ≤ 32) : ∀ (m n : Nat) (acc : List S28), n + m = ns.length → acc.length ≤ n → Ev (fun k => quant_Sub.l0 k a b acc ns (ns.length : Int) (n : Int)) (subL a b acc (ns.drop n)) := by
 intro m
 induction m with
 | zero =>
  intro n acc h _
  refine Ev.step (fun k => quant_Sub.l0.eq_2 _ _ _ _ _ _ k) (ev_neg (by omega) (ev_some' ?_))
  rw [List.drop_eq_nil_of_le (by omega)]; rfl
 | succ m ih =>
  intro n acc h hacc
  have hn : n < ns.length := by omega
  refine Ev.step (fun k => quant_Sub.l0.eq_2 _ _ _ _ _ _ k) (ev_pos (by omega) (ev_pos (by omega) (ev_pos (by omega) ?_)))
  rw [List.drop_eq_getElem_cons hn]
  simp only [rdB_at hn]
  refine Ev.bind (get_ev a _ (by omega)) (Ev.bind (get_ev b _ (by omega)) ?_)
  have h1 := ha ns[n]
  have h2 := hb ns[n]
  rw [w64 (n := get a ns[n] - get b ns[n]) (by omega) (by omega)]
  by_cases h3 : get a ns[n] < get b ns[n]
  ·
   refine ev_pos (by omega) (ev_some' ?_)
   simp [subL, h3]
  ·
   refine ev_neg (by omega) ?_
   by_cases h4 : get b ns[n] < get a ns[n]
   ·
    refine ev_pos (by omega) (ev_pos (by omega) ?_)
    rw [w64_succ (by omega)]
    have := ih (n + 1) (acc ++ [diff a b ns[n]]) (by omega) (by simp; omega)
    simpa [subL, h3, h4, diff] using this
   ·
    refine ev_neg (by omega) ?_
    rw [w64_succ (by omega)]
    have := ih (n + 1) acc (by omega) (by omega)
    simpa [subL, h3, h4] using this
def sub (a b : List S28) : List S28 × ByteArray × Int := if orL [chk a, chk b] = 0 then subL a b [] (mrg a b) else ([], ⟨#[]⟩, orL [chk a, chk b])
theorem sub_ev {a b : List S28} (ha : chk a = 0 → Amt a) (hb : chk b = 0 → Amt b) : Ev (fun k => quant_Sub.f k a b) (sub a b) := by
 unfold quant_Sub.f
 refine Ev.bind (check_ev a) (Ev.bind (check_ev b) (Ev.bind (or_ev _ (by simp)) ?_))
 unfold sub
 by_cases h : orL [chk a, chk b] = 0
 ·
  have hab := orL_zero.1 h
  have h1 := chk_zero.1 (hab (chk a) (by simp))
  have h2 := chk_zero.1 (hab (chk b) (by simp))
  refine ev_pos h (Ev.bind (both_ev h1.1 h2.1) ?_)
  rw [if_pos h]
  have hl := mrg_len a b
  have := sub_l0 a b h1.1 h2.1 (ha (hab _ (by simp))) (hb (hab _ (by simp))) (mrg a b) (by omega) (mrg a b).length 0 [] (by omega) (by simp)
  simpa using this
 ·
  refine ev_neg h ?_
  rw [if_neg h]
  exact ev_some _
theorem subL_ok {a b : List S28} : ∀ {ns : List ByteArray} {acc : List S28}, (∀ nm ∈ ns, get b nm ≤ get a nm) → subL a b acc ns = (acc ++ (ns.filter (fun nm => decide (get b nm < get a nm))).map (diff a b), ⟨#[]⟩, 0)
  | [], acc, _ => by simp [subL]
  | nm :: r, acc, h => by
    have h0 := h nm (by simp)
    unfold subL
    rw [if_neg (by omega), subL_ok (fun z hz => h z (List.mem_cons_of_mem _ hz))]
    by_cases h1 : get b nm < get a nm <;> simp [h1]
theorem subL_bad {a b : List S28} : ∀ {ns : List ByteArray} {acc : List S28}, UpN ns → (∃ nm ∈ ns, get a nm < get b nm) → ∃ nm ∈ ns, get a nm < get b nm ∧ (∀ z ∈ ns, get a z < get b z → z = nm ∨ blt nm z = true) ∧ subL a b acc ns = ([], nm, 29)
 | [], _, _, h => by obtain ⟨_, h, _⟩ := h; simp at h
 | nm :: r, acc, hu, h => by
  have hu' := List.pairwise_cons.1 hu
  unfold subL
  by_cases h1 : get a nm < get b nm
  ·
   rw [if_pos h1]
   refine ⟨nm, by simp, h1, fun z hz _ => ?_, rfl⟩
   rcases List.mem_cons.1 hz with rfl | hz
   ·
    exact Or.inl rfl
   ·
    exact Or.inr (hu'.1 z hz)
  ·
   rw [if_neg h1]
   obtain ⟨w, hw, how⟩ := h
   have hw' : w ∈ r := by
    rcases List.mem_cons.1 hw with rfl | hw
    ·
     exact absurd how h1
    ·
     exact hw
   obtain ⟨z, hz, h2, h3, h4⟩ := subL_bad hu'.2 ⟨w, hw', how⟩
   refine ⟨z, List.mem_cons_of_mem _ hz, h2, fun y hy hoy => ?_, h4⟩
   rcases List.mem_cons.1 hy with rfl | hy
   ·
    exact absurd hoy h1
   ·
    exact h3 y hy hoy
instance : DecidableEq S28 := fun a b => decidable_of_iff (a.f0 = b.f0 ∧ a.f1 = b.f1) (by cases a; cases b; simp)
theorem same_ev (xs ys : List S28) (hs : xs.length ≤ 4611686018427387903) : Ev (fun k => berthlaw02_Same.f k xs ys) (decide (xs = ys)) := by
 unfold berthlaw02_Same.f
 by_cases hl : xs.length = ys.length
 ·
  refine ev_pos (by omega) ?_
  have key : ∀ m n : Nat, n + m = xs.length → Ev (fun k => berthlaw02_Same.l0 k xs ys (xs.length : Int) (n : Int)) (decide (xs.drop n = ys.drop n)) := by
   intro m
   induction m with
   | zero =>
    intro n h
    refine Ev.step (fun k => berthlaw02_Same.l0.eq_2 _ _ _ _ k) (ev_neg (by omega) (ev_some' ?_))
    rw [List.drop_eq_nil_of_le (by omega), List.drop_eq_nil_of_le (by omega)]; simp
   | succ m ih =>
    intro n h
    have hn : n < xs.length := by omega
    have hm : n < ys.length := by omega
    refine Ev.step (fun k => berthlaw02_Same.l0.eq_2 _ _ _ _ k) (ev_pos (by omega) (ev_pos (by omega) (ev_pos (by omega) (ev_pos (by omega) ?_))))
    rw [List.drop_eq_getElem_cons hn, List.drop_eq_getElem_cons hm]
    simp only [rd_at hn, rd_at hm]
    by_cases e : xs[n] = ys[n]
    ·
     refine ev_neg (by rw [e]; simp) ?_
     rw [w64_succ (by omega), decide_eq_decide.mpr (show (xs[n] :: xs.drop (n + 1) = ys[n] :: ys.drop (n + 1)) ↔ (xs.drop (n + 1) = ys.drop (n + 1)) from ⟨fun h => (List.cons.inj h).2, fun h => by rw [e, h]⟩)]
     exact ih (n + 1) (by omega)
    ·
     refine ev_pos ?_ (ev_some' ?_)
     ·
      by_cases e1 : xs[n].f0 = ys[n].f0
      ·
       have e2 : xs[n].f1 ≠ ys[n].f1 := fun e2 => e (by cases hx : xs[n]; cases hy : ys[n]; simp_all)
       simp [e2]
      ·
       have e2 : ¬ xs[n].f0.toList = ys[n].f0.toList := fun h => e1 (toList_inj.1 h)
       simp [e2]
     ·
      exact (decide_eq_false (fun h => e (List.cons.inj h).1)).symm
  have := key xs.length 0 (by omega)
  simpa using this
 ·
  refine ev_neg (by omega) (ev_some' ?_)
  have : ¬ xs = ys := fun e => hl (by rw [e])
  simp [this]
end Go.Proofs.Ytbibnendaddbhaa.Q
