/- What the printed IsName, Check, Get, Or, Copied and Same of the amounts come to: one plain function each. No Go in sight. -/
import Derived.Test.YtbibnendaddbhaazSumsm2
import Derived.Test.YtbibnendaddbhaazSumsm3
import Derived.Test.YtbibnendaddbhaazSumsm19
namespace Go.Proofs.Ytbibnendaddbhaa.Q
open Go.RowKit Go.Proofs.YtbibnendaddbhaaW.PrintWords Go.Proofs.YtbibnendaddbhaaW.PrintLast Go.Proofs.YtbibnendaddbhaaW.PrintMore Go.Proofs.YtbibnendaddbhaaP Go.Proofs.Ytbibnendaddbhaa.All
def good (s : ByteArray) (n : Nat) : Bool :=
  let c := bt s n
  decide (97 ≤ c ∧ c ≤ 122) || (decide (48 ≤ c ∧ c ≤ 57) && decide (0 < n)) || (decide (c = 45 ∨ c = 46 ∨ c = 47) && decide (0 < n ∧ n + 1 < s.size))
def goodFrom (s : ByteArray) : Nat → Nat → Bool
  | _, 0 => true
  | n, m + 1 => good s n && goodFrom s (n + 1) m
def isN (s : ByteArray) : Bool := decide (1 ≤ s.size ∧ s.size ≤ 32) && goodFrom s 0 s.size
theorem ev_t {α : Type} {g : Nat → Option α} {P : Prop} [Decidable P] {a b : α} (h : P) (e : Ev g a) : Ev g (if P then a else b) := by rw [if_pos h]; exact e
theorem ev_f {α : Type} {g : Nat → Option α} {P : Prop} [Decidable P] {a b : α} (h : ¬ P) (e : Ev g b) : Ev g (if P then a else b) := by rw [if_neg h]; exact e
section
variable {s : ByteArray} (hs : s.size ≤ 32) {n : Nat} (hn : n < s.size) {G : Bool} (E : Ev (fun k => quant_IsName.l0 k s (wrap64 ((n : Int) + 1))) G)
include hs hn E
theorem isName_j4 (c : Int) (b : Bool) : Ev (fun k => quant_IsName.j4 k s (n : Int) c b) (if b = true ∨ ((c = 45 ∨ c = 46 ∨ c = 47) ∧ 0 < n ∧ n + 1 < s.size) then G else false) := by
 have hw : wrap64 ((s.size : Int) - 1) = (s.size : Int) - 1 := w64 (by omega) (by omega)
 refine Ev.step (fun k => quant_IsName.j4.eq_2 _ _ _ _ k) ?_
 rw [hw]
 by_cases hb : b = true
 ·
  exact ev_pos hb (ev_t (Or.inl hb) E)
 ·
  refine ev_neg hb ?_
  by_cases h5 : c = 45
  ·
   refine ev_pos h5 ?_
   by_cases h8 : 0 < n
   ·
    refine ev_pos (by omega) ?_
    by_cases h9 : n + 1 < s.size
    ·
     exact ev_pos (by omega) (ev_t (by simp [h5, h8, h9]) E)
    ·
     exact ev_neg (by omega) (ev_f (by simp [hb, h9]) (ev_some _))
   ·
    exact ev_neg (by omega) (ev_f (by simp [hb, h8]) (ev_some _))
  ·
   refine ev_neg h5 ?_
   by_cases h6 : c = 46
   ·
    refine ev_pos h6 ?_
    by_cases h8 : 0 < n
    ·
     refine ev_pos (by omega) ?_
     by_cases h9 : n + 1 < s.size
     ·
      exact ev_pos (by omega) (ev_t (by simp [h6, h8, h9]) E)
     ·
      exact ev_neg (by omega) (ev_f (by simp [hb, h9]) (ev_some _))
    ·
     exact ev_neg (by omega) (ev_f (by simp [hb, h8]) (ev_some _))
   ·
    refine ev_neg h6 ?_
    by_cases h7 : c = 47
    ·
     refine ev_pos h7 ?_
     by_cases h8 : 0 < n
     ·
      refine ev_pos (by omega) ?_
      by_cases h9 : n + 1 < s.size
      ·
       exact ev_pos (by omega) (ev_t (by simp [h7, h8, h9]) E)
      ·
       exact ev_neg (by omega) (ev_f (by simp [hb, h9]) (ev_some _))
     ·
      exact ev_neg (by omega) (ev_f (by simp [hb, h8]) (ev_some _))
    ·
     exact ev_neg h7 (ev_f (by simp [hb, h5, h6, h7]) (ev_some _))
theorem isName_j3 (c : Int) (b d : Bool) : Ev (fun k => quant_IsName.j3 k s (n : Int) c b d) (if b = true ∨ (d = true ∧ 0 < n) ∨ ((c = 45 ∨ c = 46 ∨ c = 47) ∧ 0 < n ∧ n + 1 < s.size) then G else false) := by
 refine Ev.step (fun k => quant_IsName.j3.eq_2 _ _ _ _ _ k) ?_
 by_cases hb : b = true
 ·
  exact ev_pos hb (ev_t (Or.inl hb) E)
 ·
  refine ev_neg hb ?_
  by_cases hd : d = true
  ·
   refine ev_pos hd ?_
   have := isName_j4 hs hn E c (decide ((n : Int) > 0))
   have e : (decide ((n : Int) > 0) = true) ↔ 0 < n := by simp
   simp only [e] at this
   simpa [hb, hd] using this
  ·
   refine ev_neg hd ?_
   have := isName_j4 hs hn E c false
   simpa [hb, hd] using this
theorem isName_j2 (c : Int) (b : Bool) : Ev (fun k => quant_IsName.j2 k s (n : Int) c b) (if b = true ∨ ((48 ≤ c ∧ c ≤ 57) ∧ 0 < n) ∨ ((c = 45 ∨ c = 46 ∨ c = 47) ∧ 0 < n ∧ n + 1 < s.size) then G else false) := by
 refine Ev.step (fun k => quant_IsName.j2.eq_2 _ _ _ _ k) ?_
 by_cases h : c ≥ 48
 ·
  refine ev_pos h ?_
  have := isName_j3 hs hn E c b (decide (c ≤ 57))
  have h' : 48 ≤ c := h
  simpa [h'] using this
 ·
  refine ev_neg h ?_
  have := isName_j3 hs hn E c b false
  have h' : ¬ 48 ≤ c := h
  simpa [h'] using this
end
theorem isName_l0 (s : ByteArray) (hs : s.size ≤ 32) : ∀ m n : Nat, n + m = s.size → Ev (fun k => quant_IsName.l0 k s (n : Int)) (goodFrom s n m) := by
 intro m
 induction m with
 | zero =>
  intro n h
  exact Ev.step (fun k => quant_IsName.l0.eq_2 _ _ k) (ev_neg (by omega) (ev_some _))
 | succ m ih =>
  intro n h
  have E := ih (n + 1) (by omega)
  rw [← w64_succ (by omega)] at E
  refine Ev.step (fun k => quant_IsName.l0.eq_2 _ _ k) (ev_pos (by omega) (ev_pos (by omega) ?_))
  have fin : ∀ P : Prop, [Decidable P] → (P ↔ good s n = true) → Ev (fun k => if bt s (n : Int) ≥ 97 then quant_IsName.j2 k s (n : Int) (bt s (n : Int)) (decide (bt s (n : Int) ≤ 122)) else quant_IsName.j2 k s (n : Int) (bt s (n : Int)) false) (if P then goodFrom s (n + 1) m else false) →
   Ev (fun k => if bt s (n : Int) ≥ 97 then quant_IsName.j2 k s (n : Int) (bt s (n : Int)) (decide (bt s (n : Int) ≤ 122)) else quant_IsName.j2 k s (n : Int) (bt s (n : Int)) false) (goodFrom s n (m + 1)) := by
   intro P _ hP e
   have : goodFrom s n (m + 1) = if P then goodFrom s (n + 1) m else false := by
    show (good s n && goodFrom s (n + 1) m) = _
    by_cases h : P
    ·
     rw [if_pos h, hP.1 h, Bool.true_and]
    ·
     rw [if_neg h, Bool.eq_false_iff.mpr (fun h' => h (hP.2 h')), Bool.false_and]
   rw [this]; exact e
  by_cases h1 : bt s (n : Int) ≥ 97
  ·
   refine fin _ ?_ (ev_pos h1 (isName_j2 hs (by omega) E _ _))
   have h1' : 97 ≤ bt s (n : Int) := h1
   simp [good, h1', or_assoc]
  ·
   refine fin _ ?_ (ev_neg h1 (isName_j2 hs (by omega) E _ _))
   have h1' : ¬ 97 ≤ bt s (n : Int) := h1
   simp [good, h1']
theorem isName_ev (s : ByteArray) : Ev (fun k => quant_IsName.f k s) (isN s) := by
 unfold quant_IsName.f
 by_cases h : (s.size : Int) < 1
 ·
  refine ev_pos h (Ev.step (fun k => quant_IsName.j0.eq_2 _ _ k) (ev_pos rfl (ev_some' ?_)))
  have : ¬ (1 ≤ s.size) := by omega
  simp [isN, this]
 ·
  refine ev_neg h (Ev.step (fun k => quant_IsName.j0.eq_2 _ _ k) ?_)
  by_cases h2 : (s.size : Int) > 32
  ·
   refine ev_pos (by simpa using h2) (ev_some' ?_)
   have : ¬ (s.size ≤ 32) := by omega
   simp [isN, this]
  ·
   refine ev_neg (by simpa using h2) ?_
   have e := isName_l0 s (by omega) s.size 0 (by omega)
   have : 1 ≤ s.size ∧ s.size ≤ 32 := by omega
   simpa [isN, this] using e
theorem rd_at {xs : List S28} {n : Nat} (h : n < xs.length) : rd_T28 xs (n : Int) = xs[n] := by
  simp [rd_T28, h]
def chkL : Option S28 → List S28 → Int
  | _, [] => 0
  | p, x :: r => if isN x.f0 = true then (if x.f1 ≤ 0 then 26 else if p.all (fun q => blt q.f0 x.f0) = true then chkL (some x) r else 25) else 24
def chk (l : List S28) : Int := if l.length > 16 then 27 else chkL none l
def prev (xs : List S28) (n : Nat) : Option S28 := if n = 0 then none else xs[n - 1]?
theorem prev_succ {xs : List S28} {n : Nat} (h : n < xs.length) : prev xs (n + 1) = some xs[n] := by simp [prev, h]
theorem check_l0 (xs : List S28) (hs : xs.length ≤ 16) : ∀ m n : Nat, n + m = xs.length → Ev (fun k => quant_Check.l0 k xs xs (xs.length : Int) (n : Int)) (chkL (prev xs n) (xs.drop n)) := by
 intro m
 induction m with
 | zero =>
  intro n h
  refine Ev.step (fun k => quant_Check.l0.eq_2 _ _ _ _ k) (ev_neg (by omega) (ev_some' ?_))
  rw [List.drop_eq_nil_of_le (by omega)]; rfl
 | succ m ih =>
  intro n h
  have hn : n < xs.length := by omega
  have e := List.drop_eq_getElem_cons hn
  refine Ev.step (fun k => quant_Check.l0.eq_2 _ _ _ _ k) (ev_pos (by omega) (ev_pos (by omega) (ev_pos (by omega) ?_)))
  rw [e]
  simp only [rd_at hn]
  refine Ev.bind (isName_ev _) ?_
  by_cases h1 : isN xs[n].f0 = true
  ·
   refine ev_pos h1 ?_
   by_cases h2 : xs[n].f1 ≤ 0
   ·
    refine ev_pos h2 (ev_some' ?_)
    simp [chkL, h1, h2]
   ·
    refine ev_neg h2 ?_
    by_cases h3 : n = 0
    ·
     subst h3
     refine ev_neg (by simp) ?_
     have := ih 1 (by omega)
     rw [w64_succ (by omega)]
     rw [prev_succ hn] at this
     simpa [chkL, h1, h2, prev] using this
    ·
     have hp : n - 1 < xs.length := by omega
     refine ev_pos (by omega) ?_
     rw [w64_pred (by omega) (by omega)]
     refine ev_pos (by omega) (ev_pos (by omega) ?_)
     simp only [rd_at hp]
     have hpv : prev xs n = some xs[n - 1] := by simp [prev, h3, hp]
     by_cases h4 : blt xs[n - 1].f0 xs[n].f0 = true
     ·
      refine ev_pos h4 ?_
      have := ih (n + 1) (by omega)
      rw [w64_succ (by omega)]
      rw [prev_succ hn] at this
      simpa [chkL, h1, h2, hpv, h4] using this
     ·
      refine ev_neg h4 (ev_some' ?_)
      simp [chkL, h1, h2, hpv, h4]
  ·
   refine ev_neg h1 (ev_some' ?_)
   simp [chkL, h1]
theorem check_ev (xs : List S28) : Ev (fun k => quant_Check.f k xs) (chk xs) := by
 unfold quant_Check.f
 by_cases h : (xs.length : Int) > 16
 ·
  refine ev_pos h (ev_some' ?_)
  have : xs.length > 16 := by omega
  simp [chk, this]
 ·
  refine ev_neg h ?_
  have h' : ¬ xs.length > 16 := by omega
  have := check_l0 xs (by omega) xs.length 0 (by omega)
  simpa [chk, h', prev] using this
def get : List S28 → ByteArray → Int
  | [], _ => 0
  | x :: r, nm => if x.f0 = nm then x.f1 else get r nm
theorem get_l0 (xs : List S28) (nm : ByteArray) (hs : xs.length ≤ 4611686018427387903) : ∀ m n : Nat, n + m = xs.length → Ev (fun k => quant_Get.l0 k nm xs (xs.length : Int) (n : Int)) (get (xs.drop n) nm) := by
 intro m
 induction m with
 | zero =>
  intro n h
  refine Ev.step (fun k => quant_Get.l0.eq_2 _ _ _ _ k) (ev_neg (by omega) (ev_some' ?_))
  rw [List.drop_eq_nil_of_le (by omega)]; rfl
 | succ m ih =>
  intro n h
  have hn : n < xs.length := by omega
  refine Ev.step (fun k => quant_Get.l0.eq_2 _ _ _ _ k) (ev_pos (by omega) (ev_pos (by omega) (ev_pos (by omega) ?_)))
  rw [List.drop_eq_getElem_cons hn]
  simp only [rd_at hn, toList_inj]
  by_cases h1 : xs[n].f0 = nm
  ·
   refine ev_pos h1 (ev_some' ?_)
   simp [get, h1]
  ·
   refine ev_neg h1 ?_
   rw [w64_succ (by omega)]
   simpa [get, h1] using ih (n + 1) (by omega)
theorem get_ev (xs : List S28) (nm : ByteArray) (hs : xs.length ≤ 4611686018427387903) : Ev (fun k => quant_Get.f k xs nm) (get xs nm) := by
  have := get_l0 xs nm hs xs.length 0 (by omega)
  simpa [quant_Get.f] using this
def orL : List Int → Int
  | [] => 0
  | x :: r => if x = 0 then orL r else x
theorem rdI_at {xs : List Int} {n : Nat} (h : n < xs.length) : rd xs (n : Int) = xs[n] := by simp [rd, h]
theorem or_l0 (xs : List Int) (hs : xs.length ≤ 16) : ∀ m n : Nat, n + m = xs.length → Ev (fun k => api_Errno.l0 k 0 xs (xs.length : Int) (n : Int)) (orL (xs.drop n)) := by
 intro m
 induction m with
 | zero =>
  intro n h
  refine Ev.step (fun k => api_Errno.l0.eq_2 _ _ _ _ k) (ev_neg (by omega) (ev_some' ?_))
  rw [List.drop_eq_nil_of_le (by omega)]; rfl
 | succ m ih =>
  intro n h
  have hn : n < xs.length := by omega
  refine Ev.step (fun k => api_Errno.l0.eq_2 _ _ _ _ k) (ev_pos (by omega) (ev_pos (by omega) (ev_pos (by omega) ?_)))
  rw [List.drop_eq_getElem_cons hn]
  simp only [rdI_at hn]
  by_cases h1 : xs[n] = 0
  ·
   refine ev_pos h1 ?_
   rw [w64_succ (by omega)]
   simpa [orL, h1] using ih (n + 1) (by omega)
  ·
   refine ev_neg h1 (ev_some' ?_)
   simp [orL, h1]
theorem or_ev (xs : List Int) (hs : xs.length ≤ 16) : Ev (fun k => api_Errno.f k xs) (orL xs) := by
  have := or_l0 xs hs xs.length 0 (by omega)
  simpa [api_Errno.f] using this
theorem copied {xs : List S28} (h : xs.length * 24 ≤ 140737488351232) : berthlaw02_Copied.f xs = some xs := by
  unfold berthlaw02_Copied.f
  simp only [Option.bind_some, List.length_nil, List.nil_append, Nat.zero_add]
  rw [if_pos (by omega)]
theorem copied_ev {xs : List S28} (h : xs.length * 24 ≤ 140737488351232) : Ev (fun _ => berthlaw02_Copied.f xs) xs := ev_fix (copied h)
def Rises : Option S28 → List S28 → Prop
  | _, [] => True
  | p, x :: r => isN x.f0 = true ∧ 0 < x.f1 ∧ (∀ q, p = some q → blt q.f0 x.f0 = true) ∧ Rises (some x) r
theorem chkL_zero : ∀ {l : List S28} {p : Option S28}, chkL p l = 0 ↔ Rises p l
 | [], p => by simp [chkL, Rises]
 | x :: r, p => by
  unfold chkL Rises
  by_cases h1 : isN x.f0 = true
  ·
   by_cases h2 : x.f1 ≤ 0
   ·
    simp [h1, h2]; intro h; omega
   ·
    by_cases h3 : p.all (fun q => blt q.f0 x.f0) = true
    ·
     have h3' : ∀ q, p = some q → blt q.f0 x.f0 = true := by
      rintro q rfl; simpa using h3
     have h2' : 0 < x.f1 := by omega
     rw [if_pos h1, if_neg h2, if_pos h3, chkL_zero]
     exact ⟨fun h => ⟨h1, h2', h3', h⟩, fun h => h.2.2.2⟩
    ·
     rw [if_pos h1, if_neg h2, if_neg h3]
     refine ⟨fun h => absurd h (by decide), fun h => absurd ?_ h3⟩
     cases p with
     | none => rfl
     | some q => simpa using h.2.2.1 q rfl
  ·
   rw [if_neg h1]
   exact ⟨fun h => absurd h (by decide), fun h => absurd h.1 h1⟩
theorem chk_zero {l : List S28} : chk l = 0 ↔ l.length ≤ 16 ∧ Rises none l := by
 unfold chk
 by_cases h : l.length > 16
 ·
  rw [if_pos h]; exact ⟨fun h' => absurd h' (by decide), fun h' => by omega⟩
 ·
  rw [if_neg h, chkL_zero]; exact ⟨fun h' => ⟨by omega, h'⟩, fun h' => h'.2⟩
theorem rises_head : ∀ {r : List S28} {x : S28}, Rises (some x) r → ∀ y ∈ r, blt x.f0 y.f0 = true
  | [], _, _, y, hy => by simp at hy
  | z :: r, x, h, y, hy => by
    rcases List.mem_cons.1 hy with rfl | hy
    · exact h.2.2.1 x rfl
    · exact blt_trans (h.2.2.1 x rfl) (rises_head h.2.2.2 y hy)
theorem rises_mem : ∀ {l : List S28} {p : Option S28}, Rises p l → ∀ y ∈ l, isN y.f0 = true ∧ 0 < y.f1
  | [], _, _, y, hy => by simp at hy
  | z :: r, p, h, y, hy => by
    rcases List.mem_cons.1 hy with rfl | hy
    · exact ⟨h.1, h.2.1⟩
    · exact rises_mem h.2.2.2 y hy
def room (cap used : List S28) (x : S28) : Int := wrap64 (get cap x.f0 - get used x.f0)
def shortL (cap used : List S28) : List S28 → ByteArray × Int
  | [] => (⟨#[]⟩, 0)
  | x :: r => if x.f1 > mx 0 (room cap used x) then (x.f0, 29) else shortL cap used r
theorem short_l0 (cap used xs : List S28) (h1 : cap.length ≤ 4611686018427387903) (h2 : used.length ≤ 4611686018427387903) (hs : xs.length ≤ 4611686018427387903) : ∀ m n : Nat, n + m = xs.length → Ev (fun k => quant_Short.l0 k cap used xs (xs.length : Int) (n : Int)) (shortL cap used (xs.drop n)) := by
 intro m
 induction m with
 | zero =>
  intro n h
  refine Ev.step (fun k => quant_Short.l0.eq_2 _ _ _ _ _ k) (ev_neg (by omega) (ev_some' ?_))
  rw [List.drop_eq_nil_of_le (by omega)]; rfl
 | succ m ih =>
  intro n h
  have hn : n < xs.length := by omega
  refine Ev.step (fun k => quant_Short.l0.eq_2 _ _ _ _ _ k) (ev_pos (by omega) (ev_pos (by omega) (ev_pos (by omega) ?_)))
  rw [List.drop_eq_getElem_cons hn]
  simp only [rd_at hn]
  refine Ev.bind (get_ev cap _ h1) (Ev.bind (get_ev used _ h2) ?_)
  by_cases h3 : xs[n].f1 > mx 0 (wrap64 (get cap xs[n].f0 - get used xs[n].f0))
  ·
   refine ev_pos h3 (ev_some' ?_)
   have h3' : xs[n].f1 > mx 0 (room cap used xs[n]) := h3
   simp [shortL, h3']
  ·
   refine ev_neg h3 ?_
   rw [w64_succ (by omega)]
   have h3' : ¬ xs[n].f1 > mx 0 (room cap used xs[n]) := h3
   have := ih (n + 1) (by omega)
   simpa only [shortL, if_neg h3'] using this
def short (need cap used : List S28) : ByteArray × Int := if orL [chk need, chk cap, chk used] = 0 then shortL cap used need else (⟨#[]⟩, orL [chk need, chk cap, chk used])
theorem short_ev (need cap used : List S28) (h0 : need.length ≤ 4611686018427387903) (h1 : cap.length ≤ 4611686018427387903) (h2 : used.length ≤ 4611686018427387903) : Ev (fun k => quant_Short.f k need cap used) (short need cap used) := by
 unfold quant_Short.f
 refine Ev.bind (check_ev need) (Ev.bind (check_ev cap) (Ev.bind (check_ev used) (Ev.bind (or_ev _ (by simp)) ?_)))
 unfold short
 by_cases h : orL [chk need, chk cap, chk used] = 0
 ·
  refine ev_pos h ?_
  rw [if_pos h]
  have := short_l0 cap used need h1 h2 h0 need.length 0 (by omega)
  simpa using this
 ·
  refine ev_neg h ?_
  rw [if_neg h]
  exact ev_some _
theorem orL_zero : ∀ {l : List Int}, orL l = 0 ↔ ∀ x ∈ l, x = 0
  | [] => by simp [orL]
  | x :: r => by
    unfold orL
    by_cases h : x = 0
    · rw [if_pos h, orL_zero]; simp [h]
    · rw [if_neg h]; simp [h]
end Go.Proofs.Ytbibnendaddbhaa.Q
