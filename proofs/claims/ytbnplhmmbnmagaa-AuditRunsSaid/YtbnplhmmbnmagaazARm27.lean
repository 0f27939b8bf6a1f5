/- What an instruction does on a way, plain; an audited step is such. -/
import Derived.Test.YtbnplhmmbnmagaazARm26
import Derived.Test.YtbnplhmmbnmagaazARm7
namespace Go.Proofs.Ytbnplhmmbnmagaa.D
open Go.RowKit Go.Proofs.YtbnplhmmbnmagaaW.PrintWords Go.Proofs.YtbnplhmmbnmagaaW.PrintLast Go.Proofs.YtbnplhmmbnmagaaW.PrintMore Go.Proofs.Ytbnplhmmbnmagaa.All
set_option linter.unusedSimpArgs false
set_option linter.unusedVariables false
inductive DoesTo (x : S66) (jump : Bool) (at_ : Int) : List Int → List Int → Int → List Int → List Int → Prop
  | two (s : List Int) (a : Int) (loc : List Int) (h : x.f0 = 27 ∨ x.f0 = 28 ∨ x.f0 = 29) (ha : a = 1 ∨ a = 2) : DoesTo x jump at_ (s ++ [a, a]) loc (at_ + 1) (s ++ [a]) loc
  | one (s : List Int) (a : Int) (loc : List Int) (h : x.f0 = 30 ∨ x.f0 = 33 ∨ x.f0 = 34) (ha : a = 1 ∨ a = 2) : DoesTo x jump at_ (s ++ [a]) loc (if x.f0 ≠ 30 ∧ jump = true then x.f1 else at_ + 1) (s ++ [a]) loc
  | save (s : List Int) (a : Int) (loc : List Int) (h : x.f0 = 31) (ha : a = 1 ∨ a = 2) (h0 : 0 ≤ x.f1) (h1 : x.f1 < loc.length) : DoesTo x jump at_ (s ++ [a]) loc (at_ + 1) s (loc.set x.f1.toNat a)
  | load (s loc : List Int) (h : x.f0 = 32) (h0 : 0 ≤ x.f1) (h1 : x.f1 < loc.length) (hn : loc.getD x.f1.toNat 0 ≠ 0) : DoesTo x jump at_ s loc (at_ + 1) (s ++ [loc.getD x.f1.toNat 0]) loc
  | pop (s : List Int) (a : Int) (loc : List Int) (h : x.f0 = 35) (ha : a ≠ 0) : DoesTo x jump at_ (s ++ [a]) loc (at_ + 1) s loc
  | rest (s takes : List Int) (puts : Int) (loc : List Int) (h1 : 1 ≤ x.f0) (h2 : x.f0 ≤ 26) (h3 : 0 ≤ x.f1) (ht : takes.length ≤ 2) (he : ∃ k, berthref21_Effect.f k x.f0 x.f1 = some (takes, puts)) : DoesTo x jump at_ (s ++ takes) loc (at_ + 1) (s ++ [puts]) loc
def takesOf (t : ByteArray) : List Int := (List.range t.size).map fun (j : Nat) => cellF (bt t j) 0
theorem fitsF_all (stk : List Int) (frm : Nat) (t : ByteArray) (first : Int) : ∀ (d j : Nat), fitsF stk frm t first d j = true → ∀ q, j ≤ q → q < j + d → fitF (stk.getD (frm + q) 0) (bt t q) first = true
  | 0, j, _, q, h1, h2 => by omega
  | d + 1, j, h, q, h1, h2 => by
    rw [fitsF] at h
    split at h
    · cases h
    · rename_i hf
      by_cases hq : q = j
      · subst hq; simpa using hf
      · exact fitsF_all stk frm t first d (j + 1) h q (by omega) (by omega)
theorem step_plain {dep : Int} {r : S165} {x : S66} {s s2 : St} (h : stepF dep r x s = .ok s2) (hp : ∀ j, j < r.f1.size → bt r.f1 j ≠ 42 ∧ bt r.f1 j ≠ 66) (h0 : r.f2 ≠ ⟨#[]⟩) (h1 : r.f2 ≠ ⟨#[61]⟩) (h2 : r.f2 ≠ ⟨#[76]⟩) :
 ∃ s0, s.stk = s0 ++ takesOf r.f1 ∧ s2.stk = s0 ++ [cellF (bt r.f2 0) x.f1] ∧ s2.loc = s.loc := by
 unfold stepF at h
 split at h
 ·
  cases h
 ·
  rename_i g1
  split at h
  ·
   cases h
  ·
   rename_i g2
   have hfit := fitsF_all _ _ _ _ _ _ (by simpa using g2)
   refine ⟨s.stk.take (s.stk.length - r.f1.size), ?_, ?_⟩
   ·
    have hd : s.stk.drop (s.stk.length - r.f1.size) = takesOf r.f1 := by
     apply List.ext_getElem?
     intro q
     unfold takesOf
     rw [List.getElem?_drop, List.getElem?_map]
     rcases Nat.lt_or_ge q r.f1.size with hq | hq
     ·
      obtain ⟨p1, p2⟩ := hp q hq
      have hf := hfit q (Nat.zero_le _) (by omega)
      unfold fitF at hf
      rw [if_neg p1, if_neg p2] at hf
      have hlt : s.stk.length - r.f1.size + q < s.stk.length := by omega
      rw [List.getElem?_eq_getElem hlt, List.getElem?_range hq]
      simp only [List.getD_eq_getElem?_getD, List.getElem?_eq_getElem hlt] at hf
      simpa using hf
     ·
      rw [List.getElem?_eq_none (by omega), List.getElem?_eq_none (by simpa using hq)]
      rfl
    rw [← hd, List.take_append_drop]
   ·
    split at h
    ·
     cases h
    ·
     rename_i stk loc hput
     unfold putF at hput
     rw [if_neg h0, if_neg h1, if_neg h2] at hput
     injection hput with hput; injection hput with q1 q2
     split at h
     ·
      cases h
     ·
      split at h
      ·
       cases h
      ·
       injection h with h
       subst h
       exact ⟨q1.symm, q2.symm⟩
theorem step_cells {dep : Int} {r : S165} {x : S66} {s s2 : St} (h : stepF dep r x s = .ok s2) :
 r.f1.size ≤ s.stk.length ∧ (∀ q, q < r.f1.size → fitF (s.stk.getD (s.stk.length - r.f1.size + q) 0) (bt r.f1 q) (firstF s.stk (s.stk.length - r.f1.size) r.f1.size) = true) ∧ putF r.f2 x (s.stk.take (s.stk.length - r.f1.size)) s.loc (firstF s.stk (s.stk.length - r.f1.size) r.f1.size) = .ok (s2.stk, s2.loc) := by
 unfold stepF at h
 split at h
 ·
  cases h
 ·
  rename_i g1
  split at h
  ·
   cases h
  ·
   rename_i g2
   have hfit := fitsF_all _ _ _ _ _ _ (by simpa using g2)
   split at h
   ·
    cases h
   ·
    rename_i stk loc hput
    split at h
    ·
     cases h
    ·
     split at h
     ·
      cases h
     ·
      injection h with h
      subst h
      exact ⟨by omega, fun q hq => hfit q (Nat.zero_le _) (by omega), hput⟩
theorem last1 (l : List Int) (h : 1 ≤ l.length) : l = l.take (l.length - 1) ++ [l.getD (l.length - 1) 0] := by
  have h1 : l.length - 1 < l.length := by omega
  have hd : l.drop (l.length - 1) = [l.getD (l.length - 1) 0] := by
    rw [List.drop_eq_getElem_cons h1, show l.length - 1 + 1 = l.length by omega, List.drop_length]
    simp [List.getD_eq_getElem?_getD, List.getElem?_eq_getElem h1]
  rw [← hd, List.take_append_drop]
theorem last2 (l : List Int) (h : 2 ≤ l.length) : l = l.take (l.length - 2) ++ [l.getD (l.length - 2) 0, l.getD (l.length - 2 + 1) 0] := by
  have h1 : l.length - 2 < l.length := by omega
  have h2 : l.length - 2 + 1 < l.length := by omega
  have hd : l.drop (l.length - 2) = [l.getD (l.length - 2) 0, l.getD (l.length - 2 + 1) 0] := by
    rw [List.drop_eq_getElem_cons h1, List.drop_eq_getElem_cons h2, show l.length - 2 + 1 + 1 = l.length by omega, List.drop_length]
    simp [List.getD_eq_getElem?_getD, List.getElem?_eq_getElem h1, List.getElem?_eq_getElem h2]
  rw [← hd, List.take_append_drop]
theorem cell_u (a : Int) : cellF 85 a = wrap64 (1 + a) := by
  unfold cellF
  rw [if_neg (by decide), Int.add_comm]
theorem eff_u {op a : Int} {T : List Int} {c : Int} (h : berthref21_Effect.f 8 op a = some (T, wrap64 (1 + a))) (hc : c = 85) : berthref21_Effect.f 8 op a = some (T, cellF c a) := by subst hc; rw [cell_u]; exact h
theorem cell_ne (c a : Int) (h : c ≠ 85 → 0 ≤ letterF c) (ha : c = 85 → a = 0 ∨ a = 1) : cellF c a ≠ 0 := by
 by_cases hc : c = 85
 ·
  subst hc
  rw [cell_u]
  rcases ha rfl with rfl | rfl <;> decide +kernel
 ·
  have := h hc
  unfold cellF
  rw [if_pos this]
  omega
set_option maxHeartbeats 4000000 in
set_option maxRecDepth 100000 in
theorem effect_rows (op a : Int) (h1 : 1 ≤ op) (h2 : op ≤ 26) (ha : bt (rd_T165 rowsL op).f0 0 = 117 → a = 0 ∨ a = 1) :
    (∃ k, berthref21_Effect.f k op a = some (takesOf (rd_T165 rowsL op).f1, cellF (bt (rd_T165 rowsL op).f2 0) a)) ∧ (∀ j, j < (rd_T165 rowsL op).f1.size → bt (rd_T165 rowsL op).f1 j ≠ 42 ∧ bt (rd_T165 rowsL op).f1 j ≠ 66) ∧ (rd_T165 rowsL op).f2 ≠ ⟨#[]⟩ ∧ (rd_T165 rowsL op).f2 ≠ ⟨#[61]⟩ ∧ (rd_T165 rowsL op).f2 ≠ ⟨#[76]⟩ ∧ bt (rd_T165 rowsL op).f0 0 ≠ 106 ∧ cellF (bt (rd_T165 rowsL op).f2 0) a ≠ 0 ∧ (rd_T165 rowsL op).f1.size ≤ 2 := by
  have hop : op = 1 ∨ op = 2 ∨ op = 3 ∨ op = 4 ∨ op = 5 ∨ op = 6 ∨ op = 7 ∨ op = 8 ∨ op = 9 ∨ op = 10 ∨ op = 11 ∨ op = 12 ∨ op = 13 ∨ op = 14 ∨ op = 15 ∨ op = 16 ∨ op = 17 ∨ op = 18 ∨ op = 19 ∨ op = 20 ∨ op = 21 ∨ op = 22 ∨ op = 23 ∨ op = 24 ∨ op = 25 ∨ op = 26 := by omega
  rcases hop with rfl | rfl | rfl | rfl | rfl | rfl | rfl | rfl | rfl | rfl | rfl | rfl | rfl | rfl | rfl | rfl | rfl | rfl | rfl | rfl | rfl | rfl | rfl | rfl | rfl | rfl
  all_goals refine ⟨⟨8, ?_⟩, by decide +kernel, by decide +kernel, by decide +kernel, by decide +kernel, by decide +kernel, cell_ne _ _ (by decide +kernel) (fun h => ?_), by decide +kernel⟩
  all_goals first | exact ha rfl | exact absurd h (by decide +kernel) | rfl | exact eff_u rfl rfl
section
variable {dep : Int} {r : S165} {x : S66} {s s2 : St}
theorem step_two (h : stepF dep r x s = .ok s2) (h1 : r.f1 = ⟨#[66, 66]⟩) (h2 : r.f2 = ⟨#[61]⟩) : ∃ s0 a, s.stk = s0 ++ [a, a] ∧ (a = 1 ∨ a = 2) ∧ s2.stk = s0 ++ [a] ∧ s2.loc = s.loc := by
  obtain ⟨g1, g2, g3⟩ := step_cells h
  rw [h1, show ByteArray.size ⟨#[66, 66]⟩ = 2 from rfl] at g1 g2 g3
  rw [h2] at g3
  have q0 := g2 0 (by decide)
  have q1 := g2 1 (by decide)
  have e0 : bt ⟨#[66, 66]⟩ ((0 : Nat) : Int) = 66 := by decide
  have e1 : bt ⟨#[66, 66]⟩ ((1 : Nat) : Int) = 66 := by decide
  rw [e0] at q0
  rw [e1] at q1
  unfold fitF at q0 q1
  rw [if_neg (by decide), if_pos rfl, decide_eq_true_eq] at q0 q1
  unfold firstF at q0 q1 g3
  rw [if_pos (by decide)] at q0 q1 g3
  unfold putF at g3
  rw [if_neg (by decide), if_pos rfl] at g3
  injection g3 with g3; injection g3 with g4 g5
  have hl := last2 s.stk g1
  rw [Nat.add_zero] at q0
  rw [q1.2] at hl
  exact ⟨_, _, hl, q0.1, g4.symm, g5.symm⟩
theorem step_one (h : stepF dep r x s = .ok s2) (h1 : r.f1 = ⟨#[66]⟩) : ∃ s0 a, s.stk = s0 ++ [a] ∧ (a = 1 ∨ a = 2) ∧ putF r.f2 x s0 s.loc a = .ok (s2.stk, s2.loc) := by
  obtain ⟨g1, g2, g3⟩ := step_cells h
  rw [h1, show ByteArray.size ⟨#[66]⟩ = 1 from rfl] at g1 g2 g3
  have q0 := g2 0 (by decide)
  have e0 : bt ⟨#[66]⟩ ((0 : Nat) : Int) = 66 := by decide
  rw [e0] at q0
  unfold fitF at q0
  rw [if_neg (by decide), if_pos rfl, decide_eq_true_eq] at q0
  unfold firstF at q0 g3
  rw [if_pos (by decide)] at q0 g3
  have hl := last1 s.stk g1
  exact ⟨_, _, hl, q0.1, g3⟩
theorem step_star (h : stepF dep r x s = .ok s2) (h1 : r.f1 = ⟨#[42]⟩) : ∃ s0 a, s.stk = s0 ++ [a] ∧ putF r.f2 x s0 s.loc a = .ok (s2.stk, s2.loc) := by
  obtain ⟨g1, g2, g3⟩ := step_cells h
  rw [h1, show ByteArray.size ⟨#[42]⟩ = 1 from rfl] at g1 g2 g3
  unfold firstF at g3
  rw [if_pos (by decide)] at g3
  exact ⟨_, _, last1 s.stk g1, g3⟩
theorem step_none (h : stepF dep r x s = .ok s2) (h1 : r.f1 = ⟨#[]⟩) : putF r.f2 x s.stk s.loc 0 = .ok (s2.stk, s2.loc) := by
  obtain ⟨g1, g2, g3⟩ := step_cells h
  rw [h1, show ByteArray.size ⟨#[]⟩ = 0 from rfl] at g3
  unfold firstF at g3
  rw [if_neg (by decide), Nat.sub_zero, List.take_length] at g3
  exact g3
end
theorem oper_nn {k : Wk} {l n : Int} (h : operF k l n = true) (hl : l ≠ 106) : 0 ≤ n := by
  unfold operF at h
  repeat' split at h
  all_goals simp_all
  all_goals omega
theorem form_oper {k : Wk} {i : Nat} (h : formF k i = 0) : operF k (bt (rd_T165 rowsL (rd_T66 k.C i).f0).f0 0) (rd_T66 k.C i).f1 = true := by
 unfold formF at h
 split at h
 ·
  omega
 ·
  split at h
  ·
   omega
  ·
   rename_i h2
   cases hq : operF k _ _ with
   | true => rfl
   | false => exact absurd (.inl hq) h2
theorem LeL.set {a b : List Int} (h : LeL a b) (i : Nat) (v : Int) : LeL (a.set i v) (b.set i v) := by
 refine ⟨by simp [h.1], fun j hj => ?_⟩
 simp only [List.getD_eq_getElem?_getD, List.getElem?_set] at hj ⊢
 by_cases hij : i = j
 ·
  subst hij
  rw [if_pos rfl, ← h.1]
  simp
 ·
  rw [if_neg hij] at hj
  rw [if_neg hij, if_neg hij]
  have := h.2 j (by simpa [List.getD_eq_getElem?_getD] using hj)
  simpa [List.getD_eq_getElem?_getD] using this
theorem does_of_step {k : Wk} {i : Nat} {x : S66} {s s2 : St} (hx : x = rd_T66 k.C i) (hf : formF k i = 0) (hs : stepF k.dep (rd_T165 rowsL x.f0) x s = .ok s2) (hlen : s.loc.length = k.loc.toNat) (hnz : ∀ c ∈ s.stk, c ≠ 0) (loc : List Int) (hle : LeL s.loc loc) (h36 : x.f0 ≠ 36) (jump : Bool) :
 ∃ loc', DoesTo x jump i s.stk loc (if (x.f0 = 33 ∨ x.f0 = 34) ∧ jump = true then x.f1 else (i : Int) + 1) s2.stk loc' ∧ LeL s2.loc loc' ∧ ∀ c ∈ s2.stk, c ≠ 0 := by
 obtain ⟨f1, f2, f3, f4⟩ := form_says hf
 have hop := form_oper hf
 rw [← hx] at f1 f2 f3 f4 hop
 have hloc := hle.1
 by_cases h26 : x.f0 ≤ 26
 ·
  have hu : bt (rd_T165 rowsL x.f0).f0 0 = 117 → x.f1 = 0 ∨ x.f1 = 1 := fun hb => by
   rw [hb] at hop
   simpa [operF] using hop
  obtain ⟨e1, e2, e3, e4, e5, e6, e7, e8⟩ := effect_rows x.f0 x.f1 f1 h26 hu
  obtain ⟨s0, q1, q2, q3⟩ := step_plain hs e2 e3 e4 e5
  refine ⟨loc, ?_, by rw [q3]; exact hle, fun c hc => ?_⟩
  ·
   rw [if_neg (by omega), q1, q2]
   exact DoesTo.rest s0 _ _ loc f1 h26 (oper_nn hop e6) (by unfold takesOf; simpa using e8) e1
  ·
   rw [q2] at hc
   rcases List.mem_append.1 hc with hc | hc
   ·
    exact hnz c (by rw [q1]; exact List.mem_append_left _ hc)
   ·
    rw [List.mem_singleton.1 hc]; exact e7
 ·
  have hcases : x.f0 = 27 ∨ x.f0 = 28 ∨ x.f0 = 29 ∨ x.f0 = 30 ∨ x.f0 = 31 ∨ x.f0 = 32 ∨ x.f0 = 33 ∨ x.f0 = 34 ∨ x.f0 = 35 := by omega
  have two : (x.f0 = 27 ∨ x.f0 = 28 ∨ x.f0 = 29) → (rd_T165 rowsL x.f0).f1 = ⟨#[66, 66]⟩ → (rd_T165 rowsL x.f0).f2 = ⟨#[61]⟩ → ∃ loc', DoesTo x jump i s.stk loc (if (x.f0 = 33 ∨ x.f0 = 34) ∧ jump = true then x.f1 else (i : Int) + 1) s2.stk loc' ∧ LeL s2.loc loc' ∧ ∀ c ∈ s2.stk, c ≠ 0 := by
   intro h r1 r2
   obtain ⟨s0, a, q1, q2, q3, q4⟩ := step_two hs r1 r2
   refine ⟨loc, ?_, by rw [q4]; exact hle, fun c hc => ?_⟩
   ·
    rw [if_neg (by omega), q1, q3]
    exact DoesTo.two s0 a loc h q2
   ·
    rw [q3] at hc
    exact hnz c (by rw [q1]; simp at hc ⊢; rcases hc with hc | hc <;> simp [hc])
  have one : (x.f0 = 30 ∨ x.f0 = 33 ∨ x.f0 = 34) → (rd_T165 rowsL x.f0).f1 = ⟨#[66]⟩ → (rd_T165 rowsL x.f0).f2 = ⟨#[61]⟩ → ∃ loc', DoesTo x jump i s.stk loc (if (x.f0 = 33 ∨ x.f0 = 34) ∧ jump = true then x.f1 else (i : Int) + 1) s2.stk loc' ∧ LeL s2.loc loc' ∧ ∀ c ∈ s2.stk, c ≠ 0 := by
   intro h r1 r2
   obtain ⟨s0, a, q1, q2, q3⟩ := step_one hs r1
   rw [r2] at q3
   unfold putF at q3
   rw [if_neg (by decide), if_pos rfl] at q3
   injection q3 with q3; injection q3 with q4 q5
   refine ⟨loc, ?_, by rw [← q5]; exact hle, fun c hc => ?_⟩
   ·
    rw [q1, ← q4]
    have he : (if (x.f0 = 33 ∨ x.f0 = 34) ∧ jump = true then x.f1 else (i : Int) + 1) = (if x.f0 ≠ 30 ∧ jump = true then x.f1 else (i : Int) + 1) := by
     congr 1
     apply propext
     constructor
     ·
      rintro ⟨g1, g2⟩; exact ⟨by omega, g2⟩
     ·
      rintro ⟨g1, g2⟩; exact ⟨by omega, g2⟩
    rw [he]
    exact DoesTo.one s0 a loc h q2
   ·
    rw [← q4] at hc
    exact hnz c (by rw [q1]; exact hc)
  rcases hcases with h | h | h | h | h | h | h | h | h
  ·
   exact two (by omega) (by rw [h]; decide +kernel) (by rw [h]; decide +kernel)
  ·
   exact two (by omega) (by rw [h]; decide +kernel) (by rw [h]; decide +kernel)
  ·
   exact two (by omega) (by rw [h]; decide +kernel) (by rw [h]; decide +kernel)
  ·
   exact one (by omega) (by rw [h]; decide +kernel) (by rw [h]; decide +kernel)
  ·
   obtain ⟨s0, a, q1, q2, q3⟩ := step_one hs (by rw [h]; decide +kernel)
   have hr2 : (rd_T165 rowsL x.f0).f2 = ⟨#[]⟩ := by rw [h]; decide +kernel
   have hlb := f3 (by rw [h]; decide +kernel)
   rw [hr2] at q3
   unfold putF at q3
   rw [if_pos rfl, if_pos h] at q3
   injection q3 with q3; injection q3 with q4 q5
   refine ⟨loc.set x.f1.toNat a, ?_, by rw [← q5]; exact hle.set _ _, fun c hc => ?_⟩
   ·
    rw [if_neg (by omega), q1, ← q4]
    exact DoesTo.save s0 a loc h q2 hlb.1 (by omega)
   ·
    rw [← q4] at hc
    exact hnz c (by rw [q1]; exact List.mem_append_left _ hc)
  ·
   have q3 := step_none hs (by rw [h]; decide +kernel)
   have hr2 : (rd_T165 rowsL x.f0).f2 = ⟨#[76]⟩ := by rw [h]; decide +kernel
   have hlb := f3 (by rw [h]; decide +kernel)
   rw [hr2] at q3
   unfold putF at q3
   rw [if_neg (by decide), if_neg (by decide), if_pos rfl] at q3
   split at q3
   ·
    cases q3
   ·
    rename_i hne
    injection q3 with q3; injection q3 with q4 q5
    have he := hle.2 x.f1.toNat hne
    refine ⟨loc, ?_, by rw [← q5]; exact hle, fun c hc => ?_⟩
    ·
     rw [if_neg (by omega), ← q4, ← he]
     exact DoesTo.load s.stk loc h hlb.1 (by omega) (by rw [he]; exact hne)
    ·
     rw [← q4] at hc
     rcases List.mem_append.1 hc with hc | hc
     ·
      exact hnz c hc
     ·
      rw [List.mem_singleton.1 hc]; exact hne
  ·
   exact one (by omega) (by rw [h]; decide +kernel) (by rw [h]; decide +kernel)
  ·
   exact one (by omega) (by rw [h]; decide +kernel) (by rw [h]; decide +kernel)
  ·
   obtain ⟨s0, a, q1, q3⟩ := step_star hs (by rw [h]; decide +kernel)
   have hr2 : (rd_T165 rowsL x.f0).f2 = ⟨#[]⟩ := by rw [h]; decide +kernel
   rw [hr2] at q3
   unfold putF at q3
   rw [if_pos rfl, if_neg (by omega)] at q3
   injection q3 with q3; injection q3 with q4 q5
   refine ⟨loc, ?_, by rw [← q5]; exact hle, fun c hc => ?_⟩
   ·
    rw [if_neg (by omega), q1, ← q4]
    exact DoesTo.pop s0 a loc h (hnz a (by rw [q1]; simp))
   ·
    rw [← q4] at hc
    exact hnz c (by rw [q1]; exact List.mem_append_left _ hc)
end Go.Proofs.Ytbnplhmmbnmagaa.D
namespace Go.Proofs.Ytbnplhmmbnmagaa.D
open Go.RowKit Go.Proofs.YtbnplhmmbnmagaaW.PrintWords Go.Proofs.YtbnplhmmbnmagaaW.PrintLast Go.Proofs.YtbnplhmmbnmagaaW.PrintMore Go.Proofs.Ytbnplhmmbnmagaa.All
set_option linter.unusedSimpArgs false
set_option linter.unusedVariables false
def pop.T4 : Bool × List (List Nat × List Nat) := (true, [([], []), ([], []), ([], []), ([2], [2]), ([3], [3]), ([4], [4]), ([], []), ([6], [6]), ([7], [7]), ([8], [8]), ([9], [9]), ([10], [10]), ([5, 11], [5, 11]), ([1, 12], [1, 12]), ([0, 0, 1, 2, 3, 4, 5, 6, 7, 8, 9, 10, 11, 12, 13], [0]), ([14, 0, 1, 2, 3, 4, 5, 6, 7, 8, 9, 10, 11, 12, 13], [14]), ([15, 13, 13, 0, 1, 2, 3, 4, 5, 6, 7, 8, 9, 10, 11, 12, 13], [13, 15])])
def pop.B4 : List Nat := [0, 0, 0, 4, 12, 28, 0, 64, 192, 448, 960, 1984, 4092, 8190, 16383, 32767, 65535]
theorem pop.tab4 : rtab .any (opsOf Try.f35 4) = pop.T4 := by kernel_rfl
theorem pop.bits4 : waitsOk pop.T4.2 pop.B4 = true := by kernel_rfl
def does.T21 : Bool × List (List Nat × List Nat) := (true, [([], []), ([0], [0]), ([1], [1]), ([2], [2]), ([], []), ([4], [4]), ([], []), ([3, 5, 0, 1, 2, 3, 4, 5, 6], [3, 5]), ([7, 6, 0, 1, 2, 3, 4, 5, 6], [6, 7])])
def does.B21 : List Nat := [0, 1, 3, 7, 0, 16, 0, 127, 255]
theorem does.tab21 : rtab .any (opsOf Try.f21 21) = does.T21 := by kernel_rfl
theorem does.bits21 : waitsOk does.T21.2 does.B21 = true := by kernel_rfl
theorem cells4 {W : World} {X t : Nat} {a b c d : Value} (h : W.heap[X]? = some (.cells #[a, b, c, d] t (0, 0))) : W.cell? ⟨X, 0, none⟩ = some a ∧ W.cell? ⟨X, 1, none⟩ = some b ∧ W.cell? ⟨X, 2, none⟩ = some c ∧ W.cell? ⟨X, 3, none⟩ = some d := by
  simp [World.cell?, h]
abbrev Row3 (W : World) (base : Nat) (v : Value) (l : List Int) : Prop := (Kd.int .i64).R 3 W base (fun _ => True) v l
theorem own_ints3 {W : World} {base : Nat} {ok : Nat → Prop} {v : Value} {xs : List Int} (h : W.ownsRow base 3 1 v xs.length (xs.map (Value.int .i64))) (hok : ∀ k, base ≤ k → ok k) : (Kd.int .i64).R 3 W base ok v xs :=
  ⟨fun k hk => hok k (own_base h k hk), xs.map (Value.int .i64), h, Kd.reps_scalar (enc := Value.int .i64) xs⟩
theorem own_empty3 (W : World) : (Kd.int .i64).R 3 (W.alloc (.cells #[] 3)) W.heap.size (fun k => W.heap.size ≤ k) (.slice (some ⟨W.heap.size, 0, none⟩) 0 0) [] := by
  have h := World.ownsRow_lit (base := W.heap.size) (e := 3) (size := 1) W #[] 0 (Nat.le_refl _) (by simp [maxLen]) (by simp)
  exact own_ints3 (xs := []) (by simpa using h) (fun k hk => hk)
theorem Row3.lo {W : World} {base : Nat} {ok : Nat → Prop} {v : Value} {l : List Int} (h : (Kd.int .i64).R 3 W base ok v l) {k : Nat} (hk : v.ownBlock = some k) : base ≤ k ∧ k < W.heap.size ∧ ∃ cells, W.heap[k]? = some (.cells cells 3 (0, 0)) := by
  obtain ⟨inner, ho⟩ := Kd.R_own h
  obtain ⟨cells, hc⟩ := own_typed ho k hk
  exact ⟨own_base ho k hk, blk_lt hc, cells, hc⟩
theorem Row3.step {W W2 : World} {base : Nat} {v : Value} {l : List Int} (h : Row3 W base v l) (hk : ∀ k, v.ownBlock = some k → k < W.heap.size → W2.heap[k]? = W.heap[k]?) : Row3 W2 base v l :=
  Kd.R_mono (Kd.R_step (show (Kd.int .i64).R 3 W base (fun k => v.ownBlock = some k) v l from ⟨fun _ h => h, h.2⟩) hk) (fun _ _ => trivial)
def Way (W : World) (base G : Nat) (at_ : Int) (stk loc : List Int) (deep : Int) : Prop :=
  ∃ vs vl, W.heap[G]? = some (.cells #[.int .i64 at_, vs, vl, .int .i64 deep] 63 (0, 0)) ∧ base ≤ G ∧ Row3 W base vs stk ∧ Row3 W base vl loc ∧ (∀ k, vs.ownBlock = some k → vl.ownBlock ≠ some k)
theorem Way.below {W W2 : World} {base G : Nat} {at_ : Int} {stk loc : List Int} {deep : Int} (h : Way W base G at_ stk loc deep) (hb : Below W.heap.size W W2) : Way W2 base G at_ stk loc deep := by
  obtain ⟨vs, vl, h1, h2, h3, h4, h5⟩ := h
  exact ⟨vs, vl, blk_next h1 hb, h2, Kd.R_below h3 hb, Kd.R_below h4 hb, h5⟩
def KeepG (G : Nat) (W W' : World) : Prop := W.heap.size ≤ W'.heap.size ∧ ∀ k, k < W.heap.size → k ≠ G → W'.heap[k]? = W.heap[k]?
theorem KeepG.trans {G : Nat} {W W1 W2 : World} (h : KeepG G W W1) (h' : KeepG G W1 W2) : KeepG G W W2 := ⟨Nat.le_trans h.1 h'.1, fun k hk hg => (h'.2 k (Nat.lt_of_lt_of_le hk h.1) hg).trans (h.2 k hk hg)⟩
theorem KeepG.below {G : Nat} {W W' : World} (h : Below W.heap.size W W') : KeepG G W W' := ⟨h.size, fun k hk _ => h.block k hk⟩
theorem KeepG.set {G i : Nat} {W : World} {v : Value} : KeepG G W (W.setCell ⟨G, i, none⟩ v) := ⟨by simp [World.setCell], fun k _ hg => Below.heap_setCell W _ _ k hg⟩
theorem KeepG.blk {G : Nat} {W W' : World} (h : KeepG G W W') {k : Nat} {o : Obj} (hk : W.heap[k]? = some o) (hg : k ≠ G) : W'.heap[k]? = some o := (h.2 k (blk_lt hk) hg).trans hk
theorem Way.stack {W W1 : World} {base G : Nat} {at_ deep : Int} {vs vl v1 : Value} {loc s : List Int} (hG : W.heap[G]? = some (.cells #[.int .i64 at_, vs, vl, .int .i64 deep] 63 (0, 0))) (hb : base ≤ G) (hl : Row3 W base vl loc) (hB : Below W.heap.size W W1) (hr : (Kd.int .i64).R 3 W1 W.heap.size (fun k => W.heap.size ≤ k) v1 s) (hbW : base ≤ W.heap.size) :
 Way (W1.setCell ⟨G, 1, none⟩ v1) base G at_ s loc deep ∧ (∀ b0, b0 ≤ base → Below b0 W (W1.setCell ⟨G, 1, none⟩ v1)) ∧ KeepG G W (W1.setCell ⟨G, 1, none⟩ v1) := by
 have g1 := blk_next hG hB
 have lG := blk_lt hG
 have far : ∀ k, k ≠ G → (W1.setCell ⟨G, 1, none⟩ v1).heap[k]? = W1.heap[k]? := fun k hk => Below.heap_setCell W1 _ _ k hk
 refine ⟨⟨v1, vl, by simp [World.setCell, g1, Array.getElem?_modify], hb, ?_, ?_, fun k hk he => ?_⟩, fun b0 h0 => (hB.mono (Nat.le_trans h0 hbW)).setCell (Nat.le_trans h0 hb) _, (KeepG.below hB).trans KeepG.set⟩
 ·
  refine Row3.step (Kd.R_mono (Kd.R_lower hr hbW) (fun _ _ => trivial)) (fun k hk hlt => far k ?_)
  rintro rfl
  have := (Row3.lo hr hk).1
  omega
 ·
  refine Row3.step (Kd.R_below hl hB) (fun k hk hlt => far k ?_)
  rintro rfl
  obtain ⟨-, -, cells, hc⟩ := Row3.lo hl hk
  rw [hG] at hc
  cases hc
 ·
  have h1 := (Row3.lo hr hk).1
  have h2 := (Row3.lo hl he).2.1
  omega
set_option maxHeartbeats 4000000 in
set_option maxRecDepth 100000 in
theorem pop_any (W : World) (base G : Nat) (at_ deep : Int) (s : List Int) (a : Int) (loc : List Int) (h : Way W base G at_ (s ++ [a]) loc deep) (hbW : base ≤ W.heap.size) (hl : s.length ≤ 100000) :
 Calls Try.prog 35 #[.pointer (some ⟨G, 0, none⟩)] W fun e w' => e = .returned (.int .i64 a) ∧ Way w' base G at_ s loc deep ∧ Below base W w' ∧ KeepG G W w' := by
 obtain ⟨vs, vl, hG, hb, hs, hlc, hne⟩ := h
 obtain ⟨A, c, rfl, hc, hC⟩ := Kd.R_reads hs
 have hCs : Kd.C (Kd.int .i64) W A s.length s := by
  have := Kd.C_take (m := s.length) hC (by simp)
  simpa using this
 obtain ⟨ad, rfl, ca⟩ := Kd.at_int hC (s.length : Int) (by omega) (by simp; omega)
 have hrd : rd (s ++ [a]) (s.length : Int) = a := by simp [rd]
 rw [hrd] at ca
 have hn : ((s ++ [a]).length : Int) = (s.length : Int) + 1 := by simp
 have HC := hid_ hCs
 have HG := hid_ hG
 have HL := hid_ hlc
 have hcl : s.length + 1 ≤ c := by simpa using hc
 clear hC hCs hs hne hrd hlc
 rw [Int.toNat_natCast] at ca
 obtain ⟨y0, y1, y2, y3⟩ := cells4 hG
 obtain ⟨n, hn2⟩ : ∃ n, n = (s ++ [a]).length := ⟨_, rfl⟩
 have hn3 : n = s.length + 1 := by rw [hn2]; simp
 rw [← hn2] at y1 HG
 have e1 : IntKind.i64.wrap ((n : Int) - 1) = (s.length : Int) := by rw [show (n : Int) - 1 = (s.length : Int) by omega]; exact IntWalk.i64_in _ ⟨by omega, by omega⟩
 have e0 : ((n : Int) == 0) = false := by rw [beq_eq_false_iff_ne]; omega
 have i0 : (0 : Int) ≤ (s.length : Int) := by omega
 have i1 : (s.length : Int) < (n : Int) := by omega
 have i2 : s.length < n := by omega
 have i3 : s.length ≤ c := by omega
 have i4 : (s.length : Int) ≤ (c : Int) := by omega
 clear hn hG hc hn2
 have HN := hid_ hn3
 clear hn3
 go_enter Try.func35, Try.ntmps35
 go_upto_region 3 with (fail)
 go_region_held3 (fun w' => w'.cell? ⟨G, 1, none⟩ = some (.slice (some ad) n c) ∧ w'.cell? (ad.add s.length) = some (.int .i64 a)) (go_keep) (fail)
 clear y0 y1 y2 y3
 go_upto_region 4 with (fail)
 have hV : Below W.heap.size W W.drew := (Below.refl _ _).drew
 have hSz : W.drew.heap.size = W.heap.size := rfl
 generalize W.drew = V at hV hSz ⊢
 have HSZ := hid_ hSz
 clear hSz
 have hGV := blk_next HG.out hV
 have hCV := Kd.C_below HC.out hV
 have hLV := Kd.R_below HL.out hV
 clear HG HC HL
 have HG := hid_ hGV
 have HC := hid_ hCV
 have HL := hid_ hLV
 clear hGV hCV hLV
 refine start_ (n := 17) (S := fun w' => Below V.heap.size V w') (ds := [16]) (bm 17 0) (by kernel_rfl) rfl (by kernel_rfl) (Below.refl _ _).drew (fun hHeld => ?_)
 refine with_tabW pop.tab4 pop.bits4 (fun HT_ HW_ => ?_)
 refine pure_ (i := 0) (N := some 22) (v := ?_) (a' := ?_) (bm 17 1) rfl rfl (any_of HT_.out (by kernel_rfl)) (fun _ _ _ h => h) (Or.inl ⟨by rfl, ?_⟩) ?_ ?_
 rotate_left
 ·
  intro w'
  go_simp
  with_reducible rfl
 rotate_left
 ·
  simp only [Act.put, List.setIfInBounds_toArray, List.set_cons_zero, List.set_cons_succ]
  rfl
 refine pure_ (i := 2) (N := some 24) (v := ?_) (a' := ?_) (bm 17 5) rfl rfl (any_of HT_.out (by kernel_rfl)) (fun _ _ _ h => h) (Or.inl ⟨by rfl, ?_⟩) ?_ ?_
 rotate_left
 ·
  intro w'
  go_simp
  with_reducible rfl
 rotate_left
 ·
  simp only [Act.put, List.setIfInBounds_toArray, List.set_cons_zero, List.set_cons_succ]
  rfl
 refine pure_ (i := 3) (N := some 25) (v := ?_) (a' := ?_) (bm 17 13) rfl rfl (any_of HT_.out (by kernel_rfl)) (fun _ _ _ h => h) (Or.inl ⟨by rfl, ?_⟩) ?_ ?_
 rotate_left
 ·
  intro w'
  go_simp
  with_reducible rfl
 rotate_left
 ·
  simp only [Act.put, List.setIfInBounds_toArray, List.set_cons_zero, List.set_cons_succ]
  rfl
 refine pure_ (i := 4) (N := some 26) (v := ?_) (a' := ?_) (bm 17 29) rfl rfl (any_of HT_.out (by kernel_rfl)) (fun _ _ _ h => h) (Or.inl ⟨by rfl, ?_⟩) ?_ ?_
 rotate_left
 ·
  intro w'
  go_simp
  with_reducible rfl
 rotate_left
 ·
  simp only [Act.put, List.setIfInBounds_toArray, List.set_cons_zero, List.set_cons_succ]
  rfl
 refine pure_ (i := 6) (N := some 28) (v := ?_) (a' := ?_) (bm 17 93) rfl rfl (any_of HT_.out (by kernel_rfl)) (fun _ _ _ h => h) (Or.inl ⟨by rfl, ?_⟩) ?_ ?_
 rotate_left
 ·
  intro w'
  go_simp
  with_reducible rfl
 rotate_left
 ·
  simp only [Act.put, List.setIfInBounds_toArray, List.set_cons_zero, List.set_cons_succ]
  rfl
 refine pure_ (i := 7) (N := some 29) (v := ?_) (a' := ?_) (bm 17 221) rfl rfl (any_of HT_.out (by kernel_rfl)) (fun _ _ _ h => h) (Or.inl ⟨by rfl, ?_⟩) ?_ ?_
 rotate_left
 ·
  intro w'
  go_simp
  with_reducible rfl
 rotate_left
 ·
  simp only [Act.put, List.setIfInBounds_toArray, List.set_cons_zero, List.set_cons_succ]
  rfl
 refine pure_ (i := 8) (N := some 30) (v := ?_) (a' := ?_) (bm 17 477) rfl rfl (any_of HT_.out (by kernel_rfl)) (fun _ _ _ h => h) (Or.inl ⟨by rfl, ?_⟩) ?_ ?_
 rotate_left
 ·
  intro w'
  go_simp
  with_reducible rfl
 rotate_left
 ·
  simp only [Act.put, List.setIfInBounds_toArray, List.set_cons_zero, List.set_cons_succ]
  rfl
 refine take_ (i := 5) (N := some 27) (v := ?_) (a' := ?_) (bm 17 509) rfl rfl (take_ofW HT_.out HW_.out (by kernel_rfl)) (fun _ _ _ h => h) (Or.inl ⟨by rfl, ?_⟩) hHeld ?_ ?_
 rotate_left
 ·
  intro w' hS'
  obtain ⟨x0, x1, x2, x3⟩ := cells4 (blk_next HG.out hS')
  go_simp
  with_reducible rfl
 rotate_left
 ·
  simp only [Act.put, List.setIfInBounds_toArray, List.set_cons_zero, List.set_cons_succ]
  rfl
 refine take_ (i := 9) (N := some 31) (v := ?_) (a' := ?_) (bm 17 1021) rfl rfl (take_ofW HT_.out HW_.out (by kernel_rfl)) (fun _ _ _ h => h) (Or.inl ⟨by rfl, ?_⟩) hHeld ?_ ?_
 rotate_left
 ·
  intro w' hS'
  obtain ⟨x0, x1, x2, x3⟩ := cells4 (blk_next HG.out hS')
  go_simp
  with_reducible rfl
 rotate_left
 ·
  simp only [Act.put, List.setIfInBounds_toArray, List.set_cons_zero, List.set_cons_succ]
  rfl
 refine pure_ (i := 10) (N := some 32) (v := ?_) (a' := ?_) (bm 17 2045) rfl rfl (any_of HT_.out (by kernel_rfl)) (fun _ _ _ h => h) (Or.inl ⟨by rfl, ?_⟩) ?_ ?_
 rotate_left
 ·
  intro w'
  go_simp
  with_reducible rfl
 rotate_left
 ·
  simp only [Act.put, List.setIfInBounds_toArray, List.set_cons_zero, List.set_cons_succ]
  rfl
 refine pure_ (i := 11) (N := some 33) (v := ?_) (a' := ?_) (bm 17 4093) rfl rfl (any_of HT_.out (by kernel_rfl)) (fun _ _ _ h => h) (Or.inl ⟨by rfl, ?_⟩) ?_ ?_
 rotate_left
 ·
  intro w'
  go_simp
  with_reducible rfl
 rotate_left
 ·
  simp only [Act.put, List.setIfInBounds_toArray, List.set_cons_zero, List.set_cons_succ]
  rfl
 refine pure_ (i := 12) (N := some 34) (v := ?_) (a' := ?_) (bm 17 8189) rfl rfl (any_of HT_.out (by kernel_rfl)) (fun _ _ _ h => h) (Or.inl ⟨by rfl, ?_⟩) ?_ ?_
 rotate_left
 ·
  intro w'
  go_simp
  with_reducible rfl
 rotate_left
 ·
  simp only [Act.put, List.setIfInBounds_toArray, List.set_cons_zero, List.set_cons_succ]
  rfl
 refine one_ (i := 1) (N := some 23) (bm 17 8191) rfl rfl (one_of HT_.out (by kernel_rfl)) (by decide) (fun K hK => ?_)
 go_simp
 refine hK.out _ _ (below_alloc (Below.refl _ _) _).drew (fun hHeld => ?_)
 clear hK K
 refine one_ (i := 13) (N := some 35) (bm 17 16383) rfl rfl (one_of HT_.out (by kernel_rfl)) (by decide) (fun K hK => ?_)
 refine Kd.R_append_rows_step (Kd.int .i64) (w0 := V) V.heap.size (by rfl) (.tmp 23) (.tmp 34) 23 3 (.int .i64 0) 8 rfl Try.underlying23 info3 rfl (by decide) (by omega) _ [] s (some ad) s.length c (fun k => V.heap.size ≤ k) (fun _ => False) rfl rfl (Kd.R_drew (own_empty3 V)) (Kd.C_below HC.out hHeld) (fun _ _ h => h) (fun _ hk => hk.elim) (fun k hk => Nat.le_trans hHeld.size hk) hHeld hHeld.size (by simp only [List.length_nil]; omega) ?_
 intro v1 w1 hr1 hb1 hg1 _
 have hr1 : (Kd.int .i64).R 3 w1 V.heap.size (fun k => V.heap.size ≤ k) v1 s := hr1
 obtain ⟨A2, c2, rfl⟩ := Kd.R_slice hr1
 refine hK.out _ _ hb1 (fun hHeld => ?_)
 clear hK K
 refine norm_ (a' := ?_) ?_ ?_
 rotate_left
 ·
  show Act.put _ (some 35) _ = _
  simp only [Act.put, List.setIfInBounds_toArray, List.set_cons_zero, List.set_cons_succ]
  rfl
 refine pure_ (i := 14) (N := some 36) (v := ?_) (a' := ?_) (bm 17 32767) rfl rfl (any_of HT_.out (by kernel_rfl)) (fun _ _ _ h => h) (Or.inl ⟨by rfl, ?_⟩) ?_ ?_
 rotate_left
 ·
  intro w'
  go_simp
  with_reducible rfl
 rotate_left
 ·
  simp only [Act.put, List.setIfInBounds_toArray, List.set_cons_zero, List.set_cons_succ]
  rfl
 refine pure_ (i := 15) (N := some 37) (v := ?_) (a' := ?_) (bm 17 65535) rfl rfl (any_of HT_.out (by kernel_rfl)) (fun _ _ _ h => h) (Or.inl ⟨by rfl, ?_⟩) ?_ ?_
 rotate_left
 ·
  intro w'
  go_simp
  with_reducible rfl
 rotate_left
 ·
  simp only [Act.put, List.setIfInBounds_toArray, List.set_cons_zero, List.set_cons_succ]
  rfl
 refine last_ (i := 16) (N := none) (bm 17 131071) rfl rfl (one_of HT_.out (by kernel_rfl)) (by decide) (fun K hK => ?_)
 have g1 := blk_next HG.out hHeld
 obtain ⟨x0, x1, x2, x3⟩ := cells4 g1
 have z1 := blk_frozen g1 1
 go_simp
 refine hK.out _ _ ?_
 clear x0 x1 x2 x3 z1
 clear hK K
 refine done_ (done_of HT_.out (by kernel_rfl)) ?_
 have hw := Way.stack HG.out hb HL.out hb1 hr1 (by rw [HSZ.out]; exact hbW)
 generalize w1.setCell ⟨G, 1, none⟩ (.slice A2 s.length c2) = V2 at hw ⊢
 go_wp2_with (fail)
 go_ret
 exact ⟨rfl, hw.1, (hV.mono hbW).trans (hw.2.1 base (Nat.le_refl _)), (KeepG.below hV).trans hw.2.2⟩
end Go.Proofs.Ytbnplhmmbnmagaa.D
namespace Go.Proofs.Ytbnplhmmbnmagaa.D
open Go.RowKit Go.Proofs.YtbnplhmmbnmagaaW.PrintWords Go.Proofs.YtbnplhmmbnmagaaW.PrintLast Go.Proofs.YtbnplhmmbnmagaaW.PrintMore Go.Proofs.Ytbnplhmmbnmagaa.All
set_option linter.unusedSimpArgs false
set_option linter.unusedVariables false
theorem Way.cells {W : World} {base G : Nat} {at_ : Int} {stk loc : List Int} {deep : Int} (h : Way W base G at_ stk loc deep) : ∃ A c vl, W.heap[G]? = some (.cells #[.int .i64 at_, .slice A stk.length c, vl, .int .i64 deep] 63 (0, 0)) ∧ stk.length ≤ c ∧ Kd.C (Kd.int .i64) W A stk.length stk := by
  obtain ⟨vs, vl, hG, hb, hs, hlc, hne⟩ := h
  obtain ⟨A, c, rfl, hc, hC⟩ := Kd.R_reads hs
  exact ⟨A, c, vl, hG, hc, hC⟩
theorem Way.setDeep {W : World} {base G : Nat} {at_ : Int} {stk loc : List Int} {deep : Int} (h : Way W base G at_ stk loc deep) (d : Int) : Way (W.setCell ⟨G, 3, none⟩ (.int .i64 d)) base G at_ stk loc d ∧ (∀ b0, b0 ≤ base → Below b0 W (W.setCell ⟨G, 3, none⟩ (.int .i64 d))) ∧ KeepG G W (W.setCell ⟨G, 3, none⟩ (.int .i64 d)) := by
  obtain ⟨vs, vl, hG, hb, hs, hlc, hne⟩ := h
  have far : ∀ k, k ≠ G → (W.setCell ⟨G, 3, none⟩ (.int .i64 d)).heap[k]? = W.heap[k]? := fun k hk => Below.heap_setCell W _ _ k hk
  have not : ∀ {v : Value} {l : List Int}, Row3 W base v l → v.ownBlock = some G → False := fun hr hk => by
    obtain ⟨-, -, cells, hc⟩ := Row3.lo hr hk
    rw [hG] at hc
    cases hc
  exact ⟨⟨vs, vl, by simp [World.setCell, hG, Array.getElem?_modify], hb, hs.step (fun k hk _ => far k (fun e => not hs (e ▸ hk))), hlc.step (fun k hk _ => far k (fun e => not hlc (e ▸ hk))), hne⟩, fun b0 h0 => (Below.refl _ _).setCell (Nat.le_trans h0 hb) _, KeepG.set⟩
theorem Way.setAt {W : World} {base G : Nat} {at_ : Int} {stk loc : List Int} {deep : Int} (h : Way W base G at_ stk loc deep) (d : Int) : Way (W.setCell ⟨G, 0, none⟩ (.int .i64 d)) base G d stk loc deep ∧ (∀ b0, b0 ≤ base → Below b0 W (W.setCell ⟨G, 0, none⟩ (.int .i64 d))) ∧ KeepG G W (W.setCell ⟨G, 0, none⟩ (.int .i64 d)) := by
  obtain ⟨vs, vl, hG, hb, hs, hlc, hne⟩ := h
  have far : ∀ k, k ≠ G → (W.setCell ⟨G, 0, none⟩ (.int .i64 d)).heap[k]? = W.heap[k]? := fun k hk => Below.heap_setCell W _ _ k hk
  have not : ∀ {v : Value} {l : List Int}, Row3 W base v l → v.ownBlock = some G → False := fun hr hk => by
    obtain ⟨-, -, cells, hc⟩ := Row3.lo hr hk
    rw [hG] at hc
    cases hc
  exact ⟨⟨vs, vl, by simp [World.setCell, hG, Array.getElem?_modify], hb, hs.step (fun k hk _ => far k (fun e => not hs (e ▸ hk))), hlc.step (fun k hk _ => far k (fun e => not hlc (e ▸ hk))), hne⟩, fun b0 h0 => (Below.refl _ _).setCell (Nat.le_trans h0 hb) _, KeepG.set⟩
set_option maxHeartbeats 4000000 in
set_option maxRecDepth 100000 in
theorem push_any (W : World) (base G : Nat) (at_ deep : Int) (s : List Int) (a : Int) (loc : List Int) (h : Way W base G at_ s loc deep) (hbW : base ≤ W.heap.size) (hl : s.length ≤ 100000) :
 Calls Try.prog 36 #[.pointer (some ⟨G, 0, none⟩), .int .i64 a] W fun e w' => (∃ v, e = .returned v) ∧ Way w' base G at_ (s ++ [a]) loc (if deep < (s.length + 1 : Nat) then (s.length + 1 : Nat) else deep) ∧ Below base W w' ∧ KeepG G W w' := by
 obtain ⟨vs, vl, hG, hb, hs, hlc, hne⟩ := h
 obtain ⟨A, c, rfl, hc, hC⟩ := Kd.R_reads hs
 have hC2 := Kd.C_below hC (below_alloc (Below.refl W.heap.size W) (.cells #[] 3))
 have HG := hid_ hG
 have HL := hid_ hlc
 obtain ⟨y0, y1, y2, y3⟩ := cells4 hG
 obtain ⟨z0, z1, z2, z3⟩ := cells4 (blk_next hG (below_alloc (Below.refl W.heap.size W) (.cells #[] 3)))
 clear hC hs hne hlc hG
 obtain ⟨D, hD⟩ : ∃ D : Int, D = if deep < (s.length + 1 : Nat) then ((s.length + 1 : Nat) : Int) else deep := ⟨_, rfl⟩
 rw [← hD]
 have HD := hid_ hD
 clear hD
 go_enter Try.func36, Try.ntmps36
 go_wp2_with (first | ((with_reducible refine gate_builtin (b := .append) (xs := #[.tmp 5, .tmp 9]) rfl ?_); at_builtin; refine Kd.R_append_rows (Kd.int .i64) (w0 := W) W.heap.size rfl (.tmp 5) (.tmp 9) 23 3 (.int .i64 0) 8 rfl Try.underlying23 info3 rfl (by decide) (by omega) _ [] s A s.length c (fun k => W.heap.size ≤ k) (fun _ => False) rfl rfl (own_empty3 W) hC2 (fun _ _ h => h) (fun _ hk => hk.elim) (fun k hk => by simp at hk; omega) (below_alloc (Below.refl _ _) _) (by simp) (by simp only [List.length_nil]; omega) ?_; intro v1 w1 hr1 hb1 hg1 _; have hr1 : (Kd.int .i64).R 3 w1 W.heap.size (fun k => W.heap.size ≤ k) v1 s := hr1) | ((with_reducible refine gate_builtin (b := .append) (xs := #[.tmp 10, .tmp 12]) rfl ?_); at_builtin; refine Kd.R_append (Kd.int .i64) (w0 := W) W.heap.size rfl (.tmp 10) (.tmp 12) 23 3 (.int .i64 0) 8 rfl Try.underlying23 info3 rfl (by decide) (by omega) v1 s a [.int .i64 a] (fun k => W.heap.size ≤ k) (fun _ => False) rfl rfl rfl (fun _ hk => hk.elim) (fun k hk => Nat.le_trans hb1.size hk) hr1 hb1 hb1.size (by omega) ?_; intro v2 w2 hr2 hb2 hg2 _; obtain ⟨A2, c2, rfl⟩ := Kd.R_slice hr2; have g2 := blk_next HG.out hb2; obtain ⟨x0, x1, x2, x3⟩ := cells4 g2; have q1 := blk_frozen g2 1))
 clear x0 x1 x2 x3 q1 g2 y0 y1 y2 y3 z0 z1 z2 z3
 have hw := Way.stack HG.out hb HL.out hb2 hr2 hbW
 have hln : (s ++ [a]).length = s.length + 1 := by simp
 rw [hln] at hw
 clear hr2 hg2 hb2 hr1 hg1 hb1 hC2 HG HL hln
 generalize w2.setCell ⟨G, 1, none⟩ (.slice A2 (s.length + 1) c2) = V at hw ⊢
 obtain ⟨hw, hB, hK⟩ := hw
 have HK := hid_ hK
 clear hK
 have hBb := hB base (Nat.le_refl _)
 clear hB
 obtain ⟨A3, c3, vl3, g3, -, -⟩ := hw.cells
 obtain ⟨n, hn⟩ : ∃ n, n = s.length + 1 := ⟨_, rfl⟩
 rw [show (s ++ [a]).length = n by rw [hn]; simp] at g3
 rw [← hn]
 have HW := hid_ (And.intro hw hBb)
 have z3 := blk_frozen g3 3
 obtain ⟨x0, x1, x2, x3⟩ := cells4 g3
 have HN := hid_ hn
 clear hw hBb hn g3
 by_cases h1 : deep < (n : Int)
 ·
  go_region_held3 (fun w' => w'.cell? ⟨G, 1, none⟩ = some (.slice A3 n c3) ∧ w'.cell? ⟨G, 3, none⟩ = some (.int .i64 deep) ∧ w'.frozen? ⟨G, 3, none⟩ = false) (go_keep) (fail)
  go_wp2_with (fail)
  go_end0
  have hDn : D = (n : Int) := by
   have h3 := HD.out
   have h4 := HN.out
   rw [if_pos (by omega)] at h3
   omega
  rw [hDn]
  have h2 := HW.out.1.setDeep (n : Int)
  exact ⟨⟨_, rfl⟩, h2.1.below (Below.refl _ _).drew, (HW.out.2.trans (h2.2.1 base (Nat.le_refl _))).drew, (HK.out.trans h2.2.2).trans (KeepG.below (Below.refl _ _).drew)⟩
 ·
  go_region_held3 (fun w' => w'.cell? ⟨G, 1, none⟩ = some (.slice A3 n c3) ∧ w'.cell? ⟨G, 3, none⟩ = some (.int .i64 deep) ∧ w'.frozen? ⟨G, 3, none⟩ = false) (go_keep) (fail)
  go_wp2_with (fail)
  go_end0
  have hDn : D = deep := by
   have h3 := HD.out
   have h4 := HN.out
   rw [if_neg (by omega)] at h3
   exact h3
  rw [hDn]
  exact ⟨⟨_, rfl⟩, HW.out.1.below (Below.refl _ _).drew, HW.out.2.drew, HK.out.trans (KeepG.below (Below.refl _ _).drew)⟩
end Go.Proofs.Ytbnplhmmbnmagaa.D
