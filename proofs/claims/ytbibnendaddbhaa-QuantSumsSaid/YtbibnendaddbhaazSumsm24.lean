/- The plain statement of QuantSums: every Add, Sub and Short of the program answers as the reference's: list, name and error. -/
import Derived.Test.YtbibnendaddbhaazSumsm17
import Derived.Test.YtbibnendaddbhaazSumsm23
set_option linter.unusedVariables false
set_option linter.unusedSimpArgs false
set_option linter.unusedSectionVars false
namespace Go.Proofs.Ytbibnendaddbhaa.Pure
open Go.RowKit Go.Proofs.YtbibnendaddbhaaO Go.Proofs.YtbibnendaddbhaaW.PrintWords Go.Proofs.YtbibnendaddbhaaW.PrintLast Go.Proofs.YtbibnendaddbhaaW.PrintMore Go.Proofs.YtbibnendaddbhaaP Go.Proofs.Ytbibnendaddbhaa.All Go.Proofs.Ytbibnendaddbhaa.Q Go.Proofs.Ytbibnendaddbhaa.StatQuantSums
namespace Sums
theorem amt_of {l : List S28} (h : ∀ x ∈ l, B28 x) (hp : ∀ x ∈ l, 0 < x.f1) : Amt l := by
 intro nm
 by_cases h0 : get l nm = 0
 ·
  rw [h0]; omega
 ·
  obtain ⟨x, hx, _, e⟩ := get_some h0
  have h1 := (h x hx).2
  have h2 := hp x hx
  have h3 : x.f1 ≤ 9223372036854775807 := by
   have : (Lit.int .i64 x.f1).wf = true := h1
   simp [Lit.wf, IntKind.min, IntKind.max, IntKind.signed, IntKind.bits] at this
   omega
  rw [e]; omega
theorem amt_chk {l : List S28} (h : ∀ x ∈ l, B28 x) : chk l = 0 → Amt l := fun hc => amt_of h (fun x hx => (rises_mem (chk_zero.1 hc).2 x hx).2)
theorem map_up {f : ByteArray → S28} (hf : ∀ nm, (f nm).f0 = nm) {ns : List ByteArray} (h : UpN ns) : Up (ns.map f) := by
  induction ns with
  | nil => exact List.Pairwise.nil
  | cons x r ih =>
    have h' := List.pairwise_cons.1 h
    refine List.Pairwise.cons (fun y hy => ?_) (ih h'.2)
    obtain ⟨z, hz, rfl⟩ := List.mem_map.1 hy
    show blt (f x).f0 (f z).f0 = true
    rw [hf, hf]; exact h'.1 z hz
theorem set_next {U : List S28} {g : S28 → S28} {n : Nat} (hn : n < U.length) : ((U.take n).map g ++ U.drop n).set n (g U[n]) = (U.take (n + 1)).map g ++ U.drop (n + 1) := by
  rw [List.set_append_right _ _ (by simp; omega)]
  have : n - ((U.take n).map g).length = 0 := by simp; omega
  rw [this, List.drop_eq_getElem_cons hn, List.set_cons_zero, List.take_succ_eq_append_getElem hn, List.map_append, List.append_assoc]
  rfl
theorem mixed_at {U : List S28} {g : S28 → S28} {n : Nat} (hn : n < U.length) : rd_T28 ((U.take n).map g ++ U.drop n) (n : Int) = U[n] := by
  have hl : n < ((U.take n).map g ++ U.drop n).length := by simp; omega
  rw [rd_at hl, List.getElem_append_right (by simp; omega)]
  simp only [List.length_map, List.length_take, List.getElem_drop]
  congr 1; omega
theorem mixed_len {U : List S28} {g : S28 → S28} {n : Nat} : ((U.take n).map g ++ U.drop n).length = U.length := by
  simp; omega
section
variable {a b : List S28} (ca : chk a = 0) (cb : chk b = 0) (Aa : Amt a) (Ab : Amt b)
include ca cb Aa Ab
theorem name_ok {nm : ByteArray} (h : nm ∈ mrg a b) : isN nm = true ∧ 0 < get a nm + get b nm := by
 have A := Aa nm
 have B := Ab nm
 rcases (mrg_mem a b nm).1 h with ⟨x, hx, rfl⟩ | ⟨x, hx, rfl⟩
 ·
  have h1 := rises_mem (chk_zero.1 ca).2 x hx
  have h2 := get_mem (rises_up (chk_zero.1 ca).2) hx
  exact ⟨h1.1, by rw [h2] at A ⊢; omega⟩
 ·
  have h1 := rises_mem (chk_zero.1 cb).2 x hx
  have h2 := get_mem (rises_up (chk_zero.1 cb).2) hx
  exact ⟨h1.1, by rw [h2] at B ⊢; omega⟩
theorem len_both : (bothR a b).length = (mrg a b).length := lone_len (bothR_lone (rises_up (chk_zero.1 ca).2) (rises_up (chk_zero.1 cb).2)) (mrg_up a b (rises_up (chk_zero.1 ca).2) (rises_up (chk_zero.1 cb).2)) (fun nm => bothR_mem)
theorem both_name {i : Nat} (hi : i < (bothR a b).length) : (bothR a b)[i].f0 ∈ mrg a b := bothR_mem.1 ⟨_, List.getElem_mem hi, rfl⟩
theorem rising_made {g : ByteArray → S28} (hg : ∀ nm, (g nm).f0 = nm) : Ev (fun k => berthref02_Rising.f k ((bothR a b).map (fun x => g x.f0))) (((mrg a b).filter (fun nm => decide ((g nm).f1 ≠ 0))).map g) := by
 have ua := rises_up (chk_zero.1 ca).2
 have ub := rises_up (chk_zero.1 cb).2
 have hl := len_both ca cb Aa Ab
 have h16a := (chk_zero.1 ca).1
 have h16b := (chk_zero.1 cb).1
 have hml := mrg_len a b
 refine rising_is (by simp; omega) ?_ ?_ (map_up hg (List.Pairwise.filter _ (mrg_up a b ua ub))) (fun x => ?_)
 ·
  unfold Lone
  rw [List.pairwise_map]
  exact List.Pairwise.imp (fun h => by rw [hg, hg]; exact h) (bothR_lone ua ub)
 ·
  intro x hx
  obtain ⟨y, hy, rfl⟩ := List.mem_map.1 hx
  rw [hg]
  exact isN_size (name_ok ca cb Aa Ab (bothR_mem.1 ⟨y, hy, rfl⟩)).1
 ·
  simp only [List.mem_map, List.mem_filter, decide_eq_true_eq]
  constructor
  ·
   rintro ⟨nm, ⟨h1, h2⟩, rfl⟩
   obtain ⟨y, hy, rfl⟩ := bothR_mem.2 h1
   exact ⟨⟨y, hy, rfl⟩, h2⟩
  ·
   rintro ⟨⟨y, hy, rfl⟩, h2⟩
   exact ⟨y.f0, ⟨bothR_mem.1 ⟨y, hy, rfl⟩, h2⟩, rfl⟩
theorem add_fine (hno : ∀ nm ∈ mrg a b, ¬ over a b nm) : ∀ m n : Nat, n + m = (bothR a b).length → Ev (fun k => berthref02_Add.l0 k a b (((bothR a b).take n).map (fun x => sums a b x.f0) ++ (bothR a b).drop n) ⟨#[]⟩ (n : Int)) ((mrg a b).map (sums a b), ⟨#[]⟩, 0) := by
  have h16a := (chk_zero.1 ca).1
  have h16b := (chk_zero.1 cb).1
  have hl := len_both ca cb Aa Ab
  have hml := mrg_len a b
  intro m
  induction m with
  | zero =>
    intro n h
    obtain rfl : n = (bothR a b).length := by omega
    refine Ev.step (fun k => berthref02_Add.l0.eq_2 _ _ _ _ _ k) (ev_neg (by rw [mixed_len]; omega) (ev_pos (by rw [toList_eq]) ?_))
    rw [List.take_length, List.drop_length, List.append_nil]
    refine Ev.bind (rising_made ca cb Aa Ab (g := sums a b) (fun _ => rfl)) (ev_some' ?_)
    have : (mrg a b).filter (fun nm => decide ((sums a b nm).f1 ≠ 0)) = mrg a b := by
      rw [List.filter_eq_self]
      intro nm hnm
      have := (name_ok ca cb Aa Ab hnm).2
      have h0 : (sums a b nm).f1 ≠ 0 := by show get a nm + get b nm ≠ 0; omega
      exact decide_eq_true h0
    rw [this]
  | succ m ih =>
    intro n h
    have hn : n < (bothR a b).length := by omega
    refine Ev.step (fun k => berthref02_Add.l0.eq_2 _ _ _ _ _ k) (ev_pos (by rw [mixed_len]; omega) (ev_pos (by omega) ?_))
    simp only [mixed_at hn]
    refine Ev.bind (refGet_ev a _ (by omega)) (Ev.bind (refGet_ev b _ (by omega)) ?_)
    have h1 := Aa (bothR a b)[n].f0
    have h2 := Ab (bothR a b)[n].f0
    have h3 : ¬ 9223372036854775807 < get a (bothR a b)[n].f0 + get b (bothR a b)[n].f0 := hno _ (both_name ca cb Aa Ab hn)
    rw [w64 (n := 9223372036854775807 - get b (bothR a b)[n].f0) (by omega) (by omega)]
    refine ev_neg (by omega) ?_
    rw [w64 (n := get a (bothR a b)[n].f0 + get b (bothR a b)[n].f0) (by omega) (by omega), w64_succ (by omega), Int.toNat_natCast]
    have := ih (n + 1) (by omega)
    rw [← set_next (g := fun x => sums a b x.f0) hn] at this
    exact this
theorem add_over {w : ByteArray} (hw : w ∈ mrg a b) (how : over a b w) (hmin : ∀ z ∈ mrg a b, over a b z → z = w ∨ blt w z = true) :
 ∀ m n : Nat, ∀ (X : List S28) (bad : ByteArray), n + m = (bothR a b).length → X.length = (bothR a b).length → (∀ i, (h : i < X.length) → (h' : i < (bothR a b).length) → X[i].f0 = (bothR a b)[i].f0) →
 (((∃ i, ∃ h : i < (bothR a b).length, i < n ∧ (bothR a b)[i].f0 = w) ∧ bad = w) ∨ ((∀ i, (h : i < (bothR a b).length) → i < n → (bothR a b)[i].f0 ≠ w) ∧ (bad = ⟨#[]⟩ ∨ blt w bad = true))) →
 Ev (fun k => berthref02_Add.l0 k a b X bad (n : Int)) ([], w, 28) := by
 have h16a := (chk_zero.1 ca).1
 have h16b := (chk_zero.1 cb).1
 have hl := len_both ca cb Aa Ab
 have hml := mrg_len a b
 have wsz : 0 < w.size := isN_size (name_ok ca cb Aa Ab hw).1
 have wne : w ≠ ⟨#[]⟩ := fun e => by rw [e] at wsz; exact absurd wsz (by decide)
 intro m
 induction m with
 | zero =>
  intro n X bad h hX hnames hst
  refine Ev.step (fun k => berthref02_Add.l0.eq_2 _ _ _ _ _ k) (ev_neg (by omega) ?_)
  rcases hst with ⟨_, rfl⟩ | ⟨hno, _⟩
  ·
   exact ev_neg (fun e => wne (nil_toList.1 e)) (ev_some _)
  ·
   obtain ⟨x, hx, e⟩ := bothR_mem.2 hw
   obtain ⟨i, hi, rfl⟩ := List.getElem_of_mem hx
   exact absurd e (hno i hi (by omega))
 | succ m ih =>
  intro n X bad h hX hnames hst
  have hn : n < (bothR a b).length := by omega
  have hnX : n < X.length := by omega
  refine Ev.step (fun k => berthref02_Add.l0.eq_2 _ _ _ _ _ k) (ev_pos (by omega) (ev_pos (by omega) ?_))
  simp only [rd_at hnX, hnames n hnX hn]
  refine Ev.bind (refGet_ev a _ (by omega)) (Ev.bind (refGet_ev b _ (by omega)) ?_)
  have hz := both_name ca cb Aa Ab hn
  generalize hnm : (bothR a b)[n].f0 = nm at hz ⊢
  have h1 := Aa nm
  have h2 := Ab nm
  rw [w64 (n := 9223372036854775807 - get b nm) (by omega) (by omega), w64_succ (by omega)]
  by_cases h3 : over a b nm
  ·
   have h3' : 9223372036854775807 < get a nm + get b nm := h3
   have hz2 := hmin nm hz h3
   refine ev_pos (by omega) ?_
   have next : ∀ bad' : ByteArray, (((∃ i, ∃ h : i < (bothR a b).length, i < n + 1 ∧ (bothR a b)[i].f0 = w) ∧ bad' = w) ∨ ((∀ i, (h : i < (bothR a b).length) → i < n + 1 → (bothR a b)[i].f0 ≠ w) ∧ (bad' = ⟨#[]⟩ ∨ blt w bad' = true))) →
    Ev (fun k => berthref02_Add.l0 k a b X bad' ((n + 1 : Nat) : Int)) ([], w, 28) := fun bad' hs => ih (n + 1) X bad' (by omega) hX hnames hs
   have grow : (∀ i, (h : i < (bothR a b).length) → i < n → (bothR a b)[i].f0 ≠ w) → nm ≠ w → (∀ i, (h : i < (bothR a b).length) → i < n + 1 → (bothR a b)[i].f0 ≠ w) := by
    intro ha' hne i hi hin
    rcases Nat.lt_or_ge i n with hlt | hge
    ·
     exact ha' i hi hlt
    ·
     obtain rfl : i = n := by omega
     rw [hnm]; exact hne
   by_cases h4 : bad = ⟨#[]⟩
   ·
    refine ev_pos (nil_toList.2 h4) (next nm ?_)
    rcases hst with ⟨_, e⟩ | ⟨hno, _⟩
    ·
     rw [h4] at e; exact absurd e.symm wne
    ·
     by_cases e : nm = w
     ·
      exact Or.inl ⟨⟨n, hn, by omega, by rw [hnm]; exact e⟩, e⟩
     ·
      exact Or.inr ⟨grow hno e, Or.inr (hz2.resolve_left e)⟩
   ·
    refine ev_neg (fun e => h4 (nil_toList.1 e)) ?_
    by_cases h5 : blt nm bad = true
    ·
     refine ev_pos h5 (next nm ?_)
     rcases hst with ⟨_, e⟩ | ⟨hno, hb⟩
     ·
      subst e
      rcases hz2 with rfl | hz2
      ·
       rw [blt_irrefl] at h5; exact absurd h5 (by simp)
      ·
       rw [blt_asymm hz2] at h5; exact absurd h5 (by simp)
     ·
      by_cases e : nm = w
      ·
       exact Or.inl ⟨⟨n, hn, by omega, by rw [hnm]; exact e⟩, e⟩
      ·
       exact Or.inr ⟨grow hno e, Or.inr (hz2.resolve_left e)⟩
    ·
     refine ev_neg h5 (next bad ?_)
     rcases hst with ⟨⟨i, hi, hin, e'⟩, e⟩ | ⟨hno, hb⟩
     ·
      exact Or.inl ⟨⟨i, hi, by omega, e'⟩, e⟩
     ·
      have hb' := hb.resolve_left h4
      by_cases e : nm = w
      ·
       rw [e] at h5; exact absurd hb' h5
      ·
       exact Or.inr ⟨grow hno e, Or.inr hb'⟩
  ·
   have h3' : ¬ 9223372036854775807 < get a nm + get b nm := h3
   refine ev_neg (by omega) ?_
   refine ih (n + 1) _ bad (by omega) (by simp [hX]) ?_ ?_
   ·
    intro i hi hi'
    rw [List.getElem_set]
    by_cases e : (n : Int).toNat = i
    ·
     rw [if_pos e]
     have : n = i := by simpa using e
     subst this
     exact hnm.symm
    ·
     rw [if_neg e]
     exact hnames i (by simpa using hi) hi'
   ·
    have hne : nm ≠ w := fun e => h3 (e ▸ how)
    rcases hst with ⟨⟨i, hi, hin, e'⟩, e⟩ | ⟨hno, hb⟩
    ·
     exact Or.inl ⟨⟨i, hi, by omega, e'⟩, e⟩
    ·
     refine Or.inr ⟨fun i hi hin => ?_, hb⟩
     rcases Nat.lt_or_ge i n with hlt | hge
     ·
      exact hno i hi hlt
     ·
      obtain rfl : i = n := by omega
      rw [hnm]; exact hne
theorem refAdd_both : Ev (fun k => (berthref02_both.f k a b).bind fun t371 => (if (t371.length : Int) > 16 then (some (([] : List (S28)), (⟨#[]⟩ : ByteArray), 27)) else (berthref02_Add.l0 k a b t371 (⟨#[]⟩ : ByteArray) 0))) (if (mrg a b).length > 16 then ([], ⟨#[]⟩, 27) else addL a b [] (mrg a b)) := by
 have hl := len_both ca cb Aa Ab
 refine Ev.bind (refBoth_ev (chk_zero.1 ca).1 (chk_zero.1 cb).1) ?_
 by_cases h3 : (mrg a b).length > 16
 ·
  rw [if_pos h3]; exact ev_pos (by omega) (ev_some _)
 ·
  rw [if_neg h3]
  refine ev_neg (by omega) ?_
  by_cases h4 : ∃ nm ∈ mrg a b, over a b nm
  ·
   obtain ⟨w, hw, how, hmin, e⟩ := addL_bad (acc := []) (mrg_up a b (rises_up (chk_zero.1 ca).2) (rises_up (chk_zero.1 cb).2)) h4
   rw [e]
   exact add_over ca cb Aa Ab hw how hmin (bothR a b).length 0 (bothR a b) ⟨#[]⟩ (by omega) rfl (fun i h h' => rfl) (Or.inr ⟨fun i h h' => by omega, Or.inl rfl⟩)
  ·
   have h5 : ∀ nm ∈ mrg a b, ¬ over a b nm := fun nm hnm h => h4 ⟨nm, hnm, h⟩
   rw [addL_ok h5]
   have := add_fine ca cb Aa Ab h5 (bothR a b).length 0 (by omega)
   simpa using this
theorem sub_fine (hle : ∀ nm ∈ mrg a b, get b nm ≤ get a nm) : ∀ m n : Nat, n + m = (bothR a b).length → Ev (fun k => berthref02_Sub.l1 k a b (((bothR a b).take n).map (fun x => diff a b x.f0) ++ (bothR a b).drop n) (n : Int)) (((mrg a b).filter (fun nm => decide (get b nm < get a nm))).map (diff a b), ⟨#[]⟩, 0) := by
  have h16a := (chk_zero.1 ca).1
  have h16b := (chk_zero.1 cb).1
  have hl := len_both ca cb Aa Ab
  have hml := mrg_len a b
  intro m
  induction m with
  | zero =>
    intro n h
    obtain rfl : n = (bothR a b).length := by omega
    refine Ev.step (fun k => berthref02_Sub.l1.eq_2 _ _ _ _ k) (ev_neg (by rw [mixed_len]; omega) ?_)
    rw [List.take_length, List.drop_length, List.append_nil]
    refine Ev.bind (rising_made ca cb Aa Ab (g := diff a b) (fun _ => rfl)) (ev_some' ?_)
    have : (mrg a b).filter (fun nm => decide ((diff a b nm).f1 ≠ 0)) = (mrg a b).filter (fun nm => decide (get b nm < get a nm)) := by
      refine List.filter_congr (fun nm hnm => ?_)
      have := hle nm hnm
      rw [decide_eq_decide]
      simp only [diff]; omega
    rw [this]
  | succ m ih =>
    intro n h
    have hn : n < (bothR a b).length := by omega
    refine Ev.step (fun k => berthref02_Sub.l1.eq_2 _ _ _ _ k) (ev_pos (by rw [mixed_len]; omega) (ev_pos (by omega) ?_))
    simp only [mixed_at hn]
    refine Ev.bind (refGet_ev a _ (by omega)) (Ev.bind (refGet_ev b _ (by omega)) ?_)
    have h1 := Aa (bothR a b)[n].f0
    have h2 := Ab (bothR a b)[n].f0
    rw [w64 (n := get a (bothR a b)[n].f0 - get b (bothR a b)[n].f0) (by omega) (by omega), w64_succ (by omega), Int.toNat_natCast]
    have := ih (n + 1) (by omega)
    rw [← set_next (g := fun x => diff a b x.f0) hn] at this
    exact this
theorem sub_l0 : ∀ m n : Nat, n + m = b.length → (∀ i, (h : i < b.length) → i < n → b[i].f1 ≤ get a b[i].f0) → Ev (fun k => berthref02_Sub.l0 k a b (n : Int)) (subL a b [] (mrg a b)) := by
 have h16a := (chk_zero.1 ca).1
 have h16b := (chk_zero.1 cb).1
 have ua := rises_up (chk_zero.1 ca).2
 have ub := rises_up (chk_zero.1 cb).2
 intro m
 induction m with
 | zero =>
  intro n h hp
  refine Ev.step (fun k => berthref02_Sub.l0.eq_2 _ _ _ k) (ev_neg (by omega) ?_)
  refine Ev.bind (refBoth_ev h16a h16b) ?_
  have hle : ∀ nm ∈ mrg a b, get b nm ≤ get a nm := by
   intro nm hnm
   by_cases h0 : get b nm = 0
   ·
    rw [h0]; exact (Aa nm).1
   ·
    obtain ⟨x, hx, rfl, e⟩ := get_some h0
    obtain ⟨i, hi, rfl⟩ := List.getElem_of_mem hx
    rw [e]; exact hp i hi (by omega)
  rw [subL_ok hle]
  have := sub_fine ca cb Aa Ab hle (bothR a b).length 0 (by omega)
  simpa using this
 | succ m ih =>
  intro n h hp
  have hn : n < b.length := by omega
  refine Ev.step (fun k => berthref02_Sub.l0.eq_2 _ _ _ k) (ev_pos (by omega) (ev_pos (by omega) ?_))
  simp only [rd_at hn]
  refine Ev.bind (refGet_ev a _ (by omega)) ?_
  have hgb := get_mem ub (List.getElem_mem hn)
  by_cases h3 : b[n].f1 > get a b[n].f0
  ·
   refine ev_pos h3 (ev_some' ?_)
   obtain ⟨w, hw, how, hmin, e⟩ := subL_bad (a := a) (b := b) (acc := []) (mrg_up a b ua ub) ⟨b[n].f0, (mrg_mem a b _).2 (Or.inr ⟨b[n], List.getElem_mem hn, rfl⟩), by rw [hgb]; omega⟩
   rw [e]
   have hwb : get b w ≠ 0 := by have := (Aa w).1; omega
   obtain ⟨x, hx, hxw, hxe⟩ := get_some hwb
   obtain ⟨i, hi, rfl⟩ := List.getElem_of_mem hx
   have hge : n ≤ i := by
    rcases Nat.lt_or_ge i n with hlt | hge
    ·
     have := hp i hi hlt
     rw [hxw] at this; omega
    ·
     exact hge
   have hq := hmin b[n].f0 ((mrg_mem a b _).2 (Or.inr ⟨b[n], List.getElem_mem hn, rfl⟩)) (by rw [hgb]; omega)
   have : b[n].f0 = w := by
    rcases hq with hq | hq
    ·
     exact hq
    ·
     rcases Nat.lt_or_ge n i with hlt | hge'
     ·
      have := List.pairwise_iff_getElem.1 ub n i hn hi hlt
      rw [hxw] at this
      rw [blt_asymm this] at hq; exact absurd hq (by simp)
     ·
      obtain rfl : n = i := by omega
      exact hxw
   rw [this]
  ·
   refine ev_neg h3 ?_
   rw [w64_succ (by omega)]
   refine ih (n + 1) (by omega) (fun i hi hin => ?_)
   rcases Nat.lt_or_ge i n with hlt | hge
   ·
    exact hp i hi hlt
   ·
    obtain rfl : i = n := by omega
    omega
end
theorem refAdd_ev {a b : List S28} (Ba : ∀ x ∈ a, B28 x) (Bb : ∀ x ∈ b, B28 x) : Ev (fun k => berthref02_Add.f k a b) (add a b) := by
 unfold berthref02_Add.f
 refine Ev.bind (refCheck_ev a) ?_
 unfold add
 by_cases ca : chk a = 0
 ·
  refine ev_pos ca (Ev.bind (refCheck_ev b) (Ev.step (fun k => berthref02_Add.j0.eq_2 _ _ _ k) ?_))
  by_cases cb : chk b = 0
  ·
   refine ev_pos cb ?_
   rw [if_pos (orL_zero.2 (by simp [ca, cb]))]
   exact refAdd_both ca cb (amt_chk Ba ca) (amt_chk Bb cb)
  ·
   refine ev_neg cb (ev_some' ?_)
   simp [orL, ca, cb]
 ·
  refine ev_neg ca (Ev.step (fun k => berthref02_Add.j0.eq_2 _ _ _ k) (ev_neg ca (ev_some' ?_)))
  simp [orL, ca]
theorem refSub_ev {a b : List S28} (Ba : ∀ x ∈ a, B28 x) (Bb : ∀ x ∈ b, B28 x) : Ev (fun k => berthref02_Sub.f k a b) (sub a b) := by
 unfold berthref02_Sub.f
 refine Ev.bind (refCheck_ev a) ?_
 unfold sub
 by_cases ca : chk a = 0
 ·
  refine ev_pos ca (Ev.bind (refCheck_ev b) (Ev.step (fun k => berthref02_Sub.j0.eq_2 _ _ _ k) ?_))
  by_cases cb : chk b = 0
  ·
   refine ev_pos cb ?_
   rw [if_pos (orL_zero.2 (by simp [ca, cb]))]
   have := Sums.sub_l0 ca cb (amt_chk Ba ca) (amt_chk Bb cb) b.length 0 (by omega) (fun i h h' => by omega)
   simpa using this
  ·
   refine ev_neg cb (ev_some' ?_)
   simp [orL, ca, cb]
 ·
  refine ev_neg ca (Ev.step (fun k => berthref02_Sub.j0.eq_2 _ _ _ k) (ev_neg ca (ev_some' ?_)))
  simp [orL, ca]
theorem refShort_l0 (need cap used : List S28) (h0 : need.length ≤ 16) (h1 : cap.length ≤ 16) (h2 : used.length ≤ 16) (hp : ∀ x ∈ need, 0 < x.f1) : ∀ m n : Nat, n + m = need.length → Ev (fun k => berthref02_Short.l0 k need cap used (n : Int)) (shortL cap used (need.drop n)) := by
 intro m
 induction m with
 | zero =>
  intro n h
  refine Ev.step (fun k => berthref02_Short.l0.eq_2 _ _ _ _ k) (ev_neg (by omega) (ev_some' ?_))
  rw [List.drop_eq_nil_of_le (by omega)]; rfl
 | succ m ih =>
  intro n h
  have hn : n < need.length := by omega
  refine Ev.step (fun k => berthref02_Short.l0.eq_2 _ _ _ _ k) (ev_pos (by omega) (ev_pos (by omega) ?_))
  rw [List.drop_eq_getElem_cons hn]
  simp only [rd_at hn]
  refine Ev.bind (refGet_ev cap _ (by omega)) (Ev.bind (refGet_ev used _ (by omega)) ?_)
  have hpos := hp need[n] (List.getElem_mem hn)
  have hiff : need[n].f1 > mx 0 (room cap used need[n]) ↔ wrap64 (get cap need[n].f0 - get used need[n].f0) < need[n].f1 := by
   show need[n].f1 > mx 0 (wrap64 (get cap need[n].f0 - get used need[n].f0)) ↔ _
   unfold mx
   split <;> omega
  by_cases h3 : wrap64 (get cap need[n].f0 - get used need[n].f0) < need[n].f1
  ·
   refine ev_pos h3 (ev_some' ?_)
   simp [shortL, hiff.2 h3]
  ·
   refine ev_neg h3 ?_
   rw [w64_succ (by omega)]
   have h3' : ¬ need[n].f1 > mx 0 (room cap used need[n]) := fun h' => h3 (hiff.1 h')
   have := ih (n + 1) (by omega)
   simpa only [shortL, if_neg h3'] using this
theorem refShort_ev (need cap used : List S28) : Ev (fun k => berthref02_Short.f k need cap used) (short need cap used) := by
 unfold berthref02_Short.f
 refine Ev.bind (refCheck_ev need) ?_
 unfold short
 by_cases c1 : chk need = 0
 ·
  refine ev_pos c1 (Ev.bind (refCheck_ev cap) (Ev.step (fun k => berthref02_Short.j0.eq_2 _ _ _ _ k) ?_))
  by_cases c2 : chk cap = 0
  ·
   refine ev_pos c2 (Ev.bind (refCheck_ev used) (Ev.step (fun k => berthref02_Short.j1.eq_2 _ _ _ _ k) ?_))
   by_cases c3 : chk used = 0
   ·
    refine ev_pos c3 ?_
    rw [if_pos (orL_zero.2 (by simp [c1, c2, c3]))]
    have := refShort_l0 need cap used (chk_zero.1 c1).1 (chk_zero.1 c2).1 (chk_zero.1 c3).1 (fun x hx => (rises_mem (chk_zero.1 c1).2 x hx).2) need.length 0 (by omega)
    simpa using this
   ·
    refine ev_neg c3 (ev_some' ?_)
    simp [orL, c1, c2, c3]
  ·
   refine ev_neg c2 (Ev.step (fun k => berthref02_Short.j1.eq_2 _ _ _ _ k) (ev_neg c2 (ev_some' ?_)))
   simp [orL, c1, c2]
 ·
  refine ev_neg c1 (Ev.step (fun k => berthref02_Short.j0.eq_2 _ _ _ _ k) (ev_neg c1 (Ev.step (fun k => berthref02_Short.j1.eq_2 _ _ _ _ k) (ev_neg c1 (ev_some' ?_)))))
  simp [orL, c1]
theorem add_len (a b : List S28) : (add a b).1.length ≤ 16 := by
 unfold add
 split
 ·
  split
  ·
   simp
  ·
   rename_i h
   have : ∀ (ns : List ByteArray) (acc : List S28), acc.length + ns.length ≤ 16 → (addL a b acc ns).1.length ≤ 16 := by
    intro ns
    induction ns with
    | nil => intro acc h; simpa [addL] using h
    | cons x r ih =>
     intro acc h
     unfold addL
     split
     ·
      simp
     ·
      exact ih _ (by simp at h ⊢; omega)
   exact this _ _ (by simp; omega)
 ·
  simp
theorem sub_len (a b : List S28) : (sub a b).1.length ≤ a.length + b.length := by
 unfold sub
 split
 ·
  have : ∀ (ns : List ByteArray) (acc : List S28), (subL a b acc ns).1.length ≤ acc.length + ns.length := by
   intro ns
   induction ns with
   | nil => intro acc; simp [subL]
   | cons x r ih =>
    intro acc
    unfold subL
    split
    ·
     simp
    ·
     by_cases hc : get b x < get a x
     ·
      have h := ih (acc ++ [diff a b x])
      rw [if_pos hc]; simp at h ⊢; omega
     ·
      have h := ih acc
      rw [if_neg hc]; simp at h ⊢; omega
  have h2 := this (mrg a b) []
  have h3 := mrg_len a b
  simp at h2; omega
 ·
  simp
theorem step_ev (o : S51) (h : B51 o) : Ev (fun k => berthlaw02_sums.f k o.f0 o.f1 o.f2 o.f3 o.f4) true := by
 obtain ⟨_, _, ⟨l2, B2⟩, ⟨l3, B3⟩, ⟨l4, B4⟩⟩ := h
 unfold berthlaw02_sums.f
 by_cases h7 : o.f0 = 7
 ·
  refine ev_pos h7 (Ev.bind (copied_ev l2) (Ev.bind (copied_ev l3) (Ev.bind (refAdd_ev B2 B3) (Ev.bind (copied_ev l2) (Ev.bind (copied_ev l3) (Ev.bind (add_ev (amt_chk B2) (amt_chk B3)) ?_))))))
  have := add_len o.f2 o.f3
  refine Ev.bind (same_ev _ _ (by omega)) (ev_pos (by simp) (ev_pos rfl (ev_some' (by simp))))
 ·
  refine ev_neg h7 ?_
  by_cases h8 : o.f0 = 8
  ·
   refine ev_pos h8 (Ev.bind (copied_ev l2) (Ev.bind (copied_ev l3) (Ev.bind (refSub_ev B2 B3) (Ev.bind (copied_ev l2) (Ev.bind (copied_ev l3) (Ev.bind (sub_ev (amt_chk B2) (amt_chk B3)) ?_))))))
   have := sub_len o.f2 o.f3
   refine Ev.bind (same_ev _ _ (by omega)) (ev_pos (by simp) (ev_pos rfl (ev_some' (by simp))))
  ·
   refine ev_neg h8 ?_
   by_cases h9 : o.f0 = 9
   ·
    refine ev_pos h9 (Ev.bind (copied_ev l2) (Ev.bind (copied_ev l3) (Ev.bind (copied_ev l4) (Ev.bind (refShort_ev _ _ _) (Ev.bind (copied_ev l2) (Ev.bind (copied_ev l3) (Ev.bind (copied_ev l4) (Ev.bind (short_ev _ _ _ (by omega) (by omega) (by omega)) (ev_pos rfl (ev_some' (by simp)))))))))))
   ·
    exact ev_neg h9 (ev_some _)
theorem fixed_ev : Ev (fun k => berthlaw02_fixedSum.f k) true := by
 unfold berthlaw02_fixedSum.f
 have A1 : ∀ l : List S28, (∀ x ∈ l, 0 ≤ x.f1 ∧ x.f1 ≤ 9223372036854775807) → Amt l := by
  intro l h nm
  by_cases h0 : get l nm = 0
  ·
   rw [h0]; omega
  ·
   obtain ⟨x, hx, _, e⟩ := get_some h0
   rw [e]; exact h x hx
 refine Ev.bind (add_ev (fun _ => A1 _ (by simp)) (fun _ => A1 _ (by simp))) ?_
 have hfix : add [(⟨⟨#[99, 112, 117]⟩, 4⟩ : S28)] [⟨⟨#[99, 112, 117]⟩, 1⟩, ⟨⟨#[109, 101, 109]⟩, 2⟩] = ([⟨⟨#[99, 112, 117]⟩, 5⟩, ⟨⟨#[109, 101, 109]⟩, 2⟩], ⟨#[]⟩, 0) := by decide +kernel
 rw [hfix]
 refine Ev.bind (same_ev _ _ (by simp)) (ev_pos (by simp) (ev_pos ?_ (ev_some _)))
 rw [toList_eq]
theorem all_ev (xs : List S51) (hs : xs.length ≤ 4611686018427387903) (hB : ∀ x ∈ xs, B51 x) : ∀ m n : Nat, n + m = xs.length → Ev (fun k => berthlaw02_QuantSums.l0 k xs (xs.length : Int) (n : Int)) true := by
  intro m
  induction m with
  | zero =>
    intro n h
    exact Ev.step (fun k => berthlaw02_QuantSums.l0.eq_2 _ _ _ k) (ev_neg (by omega) (ev_some _))
  | succ m ih =>
    intro n h
    have hn : n < xs.length := by omega
    have hr : rd_T51 xs (n : Int) = xs[n] := by simp [rd_T51, hn]
    refine Ev.step (fun k => berthlaw02_QuantSums.l0.eq_2 _ _ _ k) (ev_pos (by omega) (ev_pos (by omega) (ev_pos (by omega) ?_)))
    simp only [hr]
    refine Ev.bind (step_ev _ (hB _ (List.getElem_mem hn))) (ev_pos rfl ?_)
    rw [w64_succ (by omega)]
    exact ih (n + 1) (by omega)
end Sums
open Sums
theorem QuantSums : StatQuantSums.Pure := by
  intro xs ⟨hl, hB⟩
  refine Ev.rounds (g := fun k => berthlaw02_QuantSums.f k xs) ?_
  unfold berthlaw02_QuantSums.f
  refine Ev.bind Sums.fixed_ev (ev_pos rfl ?_)
  have := all_ev xs (by omega) hB xs.length 0 (by omega)
  simpa using this
end Go.Proofs.Ytbibnendaddbhaa.Pure
