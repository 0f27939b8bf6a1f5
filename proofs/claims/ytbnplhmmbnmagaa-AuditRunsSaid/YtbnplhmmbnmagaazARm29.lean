/- A run through an accepted program, plain. -/
import Derived.Test.YtbnplhmmbnmagaazARm27
import Derived.Test.YtbnplhmmbnmagaazARm6
import Derived.Test.YtbnplhmmbnmagaazARm28
import Derived.Test.YtbnplhmmbnmagaazARm8
namespace Go.Proofs.Ytbnplhmmbnmagaa.D
open Go.RowKit Go.Proofs.YtbnplhmmbnmagaaW.PrintWords Go.Proofs.YtbnplhmmbnmagaaW.PrintLast Go.Proofs.YtbnplhmmbnmagaaW.PrintMore Go.Proofs.Ytbnplhmmbnmagaa.All
set_option linter.unusedSimpArgs false
set_option linter.unusedVariables false
structure Runs (k : Wk) (told : List (List Int)) (m : Int) (Z : List St) : Prop where
  len : Z.length = k.C.length
  told : told = Z.map St.stk
  deep : ∀ σ ∈ Z, (σ.stk.length : Int) ≤ m
  first : ∀ σ, Z.head? = some σ → σ.stk = [] ∧ LeL σ.loc (List.replicate k.loc.toNat 0)
  good : ∀ j, j < k.C.length → GoodAt k j (Z.drop j)
theorem runs_of {nT nN nS nM : Nat} {C : List S66} {dep loc : Int} {t : List (List Int)} {m : Int} (h : auditF nT nN nS nM C dep loc = .ok (t, m)) : 0 < C.length ∧ C.length ≤ 32768 ∧ ∃ Z, Runs (K0 nT nN nS nM C dep loc) t m Z := by
 by_cases hD : Declared nT nN nS nM C dep loc
 ·
  rw [auditF_bad hD] at h; cases h
 rw [auditF_ok hD] at h
 split at h
 ·
  cases h
 rename_i hc
 unfold Declared at hD
 refine ⟨by omega, by omega, ?_⟩
 unfold runF at h
 obtain ⟨Z, b1, b2, b3, b4, b5, b6, b7⟩ := run_states (K0 nT nN nS nM C dep loc) (by show 0 ≤ loc; omega) _ 0 ⟨[], List.replicate loc.toNat 0, false⟩ [] [] 0 t m (Nat.zero_add _) (by simp [K0]) (fun x hx => by cases hx) h
 exact ⟨Z, b1, by simpa using b2, b4, fun σ hσ => b5 σ hσ, fun j hj => by have := b7 j hj; rwa [Nat.zero_add] at this⟩
section
variable {k : Wk} {told : List (List Int)} {m : Int} {Z : List St} (h : Runs k told m Z)
include h
theorem Runs.step {p : Nat} {σ : St} (hp : Z[p]? = some σ) (loc : List Int) (hle : LeL σ.loc loc) (hnz : ∀ c ∈ σ.stk, c ≠ 0) (x : S66) (hx : x = rd_T66 k.C p) (h36 : x.f0 ≠ 36) (jump : Bool) :
 ∃ (p2 : Nat) (σ2 : St) (loc2 : List Int), p < p2 ∧ p2 < k.C.length ∧ Z[p2]? = some σ2 ∧ LeL σ2.loc loc2 ∧ (∀ c ∈ σ2.stk, c ≠ 0) ∧ DoesTo x jump p σ.stk loc p2 σ2.stk loc2 ∧ loc.length = k.loc.toNat ∧ loc2.length = k.loc.toNat := by
 have hpl : p < Z.length := (List.getElem?_eq_some_iff.1 hp).1
 have hpn : p < k.C.length := by rw [← h.len]; exact hpl
 obtain ⟨σ', r, s2, hZ, hlen, hf, hs, hn, hj⟩ := h.good p hpn
 have hdrop : Z.drop p = σ :: Z.drop (p + 1) := by
  rw [List.drop_eq_getElem_cons hpl]
  congr 1
  have := (List.getElem?_eq_some_iff.1 hp).2
  exact this
 rw [hdrop] at hZ
 injection hZ with h1 h2
 subst h1
 rw [← hx] at hs hn hj
 obtain ⟨loc2, hd, hl2, hz2⟩ := does_of_step hx hf hs hlen hnz loc hle h36 jump
 have hlens : loc.length = k.loc.toNat := by rw [← hle.1, hlen]
 have hs2len : s2.loc.length = k.loc.toNat := by
  obtain ⟨f1, f2, f3, f4⟩ := form_says hf
  obtain ⟨r1, r2, r3⟩ := row_local _ f1 f2
  rw [← hx] at f1 f2 f3 f4 r1 r2 r3
  obtain ⟨-, -, -, w4, -⟩ := step_wide (dep' := 0) (z := 0) hs (fun q => by have := f3 (r1 q); omega) (fun q => by have := f3 (r2 q); omega)
  omega
 by_cases hjmp : (x.f0 = 33 ∨ x.f0 = 34) ∧ jump = true
 ·
  rw [if_pos hjmp] at hd
  obtain ⟨σ2, g1, g2⟩ := hj hjmp.1
  rw [List.getElem?_drop] at g1
  have hlt := (List.getElem?_eq_some_iff.1 g1).1
  have htg : (p : Int) < x.f1 ∧ x.f1 < k.C.length := by
   have hf2 := hf
   unfold formF at hf2
   rw [← hx] at hf2
   split at hf2
   ·
    omega
   split at hf2
   ·
    omega
   unfold form2F at hf2
   split at hf2
   ·
    omega
   ·
    rename_i hxx
    by_cases q1 : x.f1 ≤ p
    ·
     exact absurd ⟨hjmp.1, .inl q1⟩ hxx
    ·
     by_cases q2 : (k.C.length : Int) ≤ x.f1
     ·
      exact absurd ⟨hjmp.1, .inr q2⟩ hxx
     ·
      omega
  refine ⟨x.f1.toNat, σ2, loc2, by omega, by omega, ?_, g2.2.trans hl2, by rw [g2.1]; exact hz2, ?_, hlens, by rw [← hl2.1, hs2len]⟩
  ·
   rw [show x.f1.toNat = p + (x.f1 - p).toNat by omega]; exact g1
  ·
   rw [g2.1, show ((x.f1.toNat : Nat) : Int) = x.f1 by omega]; exact hd
 ·
  rw [if_neg hjmp] at hd
  obtain ⟨σ2, g1, g2⟩ := hn h36
  rw [← h2, List.head?_drop] at g1
  have hlt := (List.getElem?_eq_some_iff.1 g1).1
  refine ⟨p + 1, σ2, loc2, by omega, by rw [← h.len]; exact hlt, g1, g2.2.trans hl2, by rw [g2.1]; exact hz2, ?_, hlens, by rw [← hl2.1, hs2len]⟩
  rw [g2.1]; push_cast; exact hd
theorem Runs.last {p : Nat} {σ : St} (hp : Z[p]? = some σ) (x : S66) (hx : x = rd_T66 k.C p) (h36 : x.f0 = 36) : p + 1 = k.C.length ∧ σ.stk = [1] := by
  have hpl : p < Z.length := (List.getElem?_eq_some_iff.1 hp).1
  have hpn : p < k.C.length := by rw [← h.len]; exact hpl
  obtain ⟨σ', r, s2, hZ, hlen, hf, hs, hn, hj⟩ := h.good p hpn
  have hdrop : Z.drop p = σ :: Z.drop (p + 1) := by
    rw [List.drop_eq_getElem_cons hpl]
    congr 1
    exact (List.getElem?_eq_some_iff.1 hp).2
  rw [hdrop] at hZ
  injection hZ with h1 h2
  subst h1
  rw [← hx] at hs
  obtain ⟨f1, f2, f3, f4⟩ := form_says hf
  rw [← hx] at f1 f2 f3 f4
  obtain ⟨r1, r2, r3⟩ := row_local _ f1 f2
  obtain ⟨-, -, -, -, w5, -⟩ := step_wide (dep' := 0) (z := 0) hs (fun q => by have := f3 (r1 q); omega) (fun q => by have := f3 (r2 q); omega)
  refine ⟨f4.1 h36, ?_⟩
  have hr1 : (rd_T165 rowsL x.f0).f1 = ⟨#[78]⟩ := by rw [h36]; decide +kernel
  have hr2 : (rd_T165 rowsL x.f0).f2 = ⟨#[]⟩ := by rw [h36]; decide +kernel
  obtain ⟨g1, g2, g3⟩ := step_cells hs
  rw [hr1, show ByteArray.size ⟨#[78]⟩ = 1 from rfl] at g1 g2 g3
  rw [hr2] at g3
  have q0 := g2 0 (by decide)
  have e0 : bt ⟨#[78]⟩ ((0 : Nat) : Int) = 78 := by decide
  rw [e0] at q0
  unfold fitF at q0
  rw [if_neg (by decide), if_neg (by decide), decide_eq_true_eq, show cellF 78 0 = 1 by decide +kernel] at q0
  unfold putF at g3
  rw [if_pos rfl] at g3
  injection g3 with g3; injection g3 with g4 g5
  have hz := w5 h36
  rw [← g4] at hz
  have hl1 : σ.stk.length = 1 := by
    rw [List.length_take] at hz
    omega
  rw [hl1] at q0
  have := last1 σ.stk g1
  rw [this, hl1]
  simp only [Nat.sub_self, List.take_zero, List.nil_append]
  rw [show (1 - 1 + 0) = 0 by rfl] at q0
  rw [q0]
end
theorem sameCells_yes (l : List Int) (hl : l.length ≤ 100000) : ∀ (d i : Nat), i + d = l.length → berthlaw21_sameCells.l0 (d + 1) l l (i : Int) = some true
  | 0, i, h => by
    rw [berthlaw21_sameCells.l0, if_neg (by omega)]
  | d + 1, i, h => by
    rw [berthlaw21_sameCells.l0, if_pos (by omega), if_pos (by omega), if_pos (by omega), if_pos rfl, show wrap64 ((i : Int) + 1) = ((i + 1 : Nat) : Int) by rw [wrap_ _ (by omega) (by omega)]; push_cast; rfl]
    exact sameCells_yes l hl d (i + 1) (by omega)
theorem sameCells_any (w : World) (A0 A1 : Option Addr) (c0 c1 : Nat) (l : List Int) (hl : l.length ≤ 100000) (h0 : Kd.C (Kd.int .i64) w A0 l.length l) (g0 : l.length ≤ c0) (h1 : Kd.C (Kd.int .i64) w A1 l.length l) (g1 : l.length ≤ c1) :
    Calls Try.prog 17 #[.slice A0 l.length c0, .slice A1 l.length c1] w fun e w' => e = .returned (.bool true) ∧ Drawn0 w w' :=
  berthlaw21_sameCells.calls (l.length + 1) A0 c0 l A1 c1 l true w h0 g0 h1 g1 (by unfold berthlaw21_sameCells.f; rw [if_pos rfl]; exact sameCells_yes l hl l.length 0 (Nat.zero_add _))
end Go.Proofs.Ytbnplhmmbnmagaa.D
namespace Go.Proofs.Ytbnplhmmbnmagaa.D
open Go.RowKit Go.Proofs.YtbnplhmmbnmagaaW.PrintWords Go.Proofs.YtbnplhmmbnmagaaW.PrintLast Go.Proofs.YtbnplhmmbnmagaaW.PrintMore Go.Proofs.Ytbnplhmmbnmagaa.All
set_option linter.unusedSimpArgs false
set_option linter.unusedVariables false
def runs.T16 : Bool × List (List Nat × List Nat) := (true, [([], []), ([0], [0]), ([], []), ([2], [2]), ([3], [3]), ([4], [4]), ([1, 5], [1, 5]), ([6], [6]), ([], []), ([8, 7, 0, 1, 2, 3, 4, 5, 6, 7, 8], [7, 8])])
def runs.B16 : List Nat := [0, 1, 0, 4, 12, 28, 63, 127, 0, 511]
theorem runs.tab16 : rtab .any (opsOf Try.f5 16) = runs.T16 := by kernel_rfl
theorem runs.bits16 : waitsOk runs.T16.2 runs.B16 = true := by kernel_rfl
set_option maxHeartbeats 4000000 in
set_option maxRecDepth 100000 in
theorem runs_r14 {u0 u1 u3 u4 u5 u6 u8 u10 u11 u12 u13 u14 u15 u16 u17 u18 u19 u20 u21 u22 u23 u24 u25 u26 u27 u28 u29 u30 u31 u32 u33 u34 u35 u36 u37 u38 u39 u40 u41 u42 u43 u44 u45 u46 u47 u48 u49 u50 u51 u52 u53 u54 u55 u56 u57 u58 u59 u60 u61 u62 u63 u64 u65 u66 u67 u68 u69 u70 u71 u72 u73 u74 u75 u76 u77 u78 u79 u80 u81 u82 u83 u84 u85 u86 u87 u88 u89 u90 u91 u92 u93 u94 u95 u96 u97 u98 u99 u100 u101 u102 u103 u104 u105 u106 u107 u108 u109 u110 u111 u112 u113 u114 u115 u116 u117 u118 u119 u120 u121 u122 u123 u124 u125 u126 u127 u128 u129 u130 u131 u132 u133 u134 u135 u136 u137 u138 u139 u140 u141 u142 u143 u144 u145 u146 u147 u148 u149 u150 u151 u152 u153 u154 u155 u156 u157 u158 u159 u160 u161 u162 u163 u164 u165 u166 u167 u168 u169 u170 u171 u172 u173 u174 u175 u176 u177 u178 u179 u180 u181 u182 u183 u184 u185 u186 u187 u188 u189 u190 u191 u192 u193 u194 u195 u196 u197 u198 u199 u200 u201 u202 u203 u204 u205 u206 u207 u208 : Value} {K : Act → World → Prop} {Q' : Exit → Act → World → Prop} {ops : Array Oper} (hops : ops = opsOf Try.f5 14) {wr : World} {X G n c4 ct p k cr cw : Nat} {A4 Ar Aw : Option Addr} {ad : Addr}
    (w0 : wr.cell? ⟨G, 0, none⟩ = some (.int .i64 p)) (x4 : wr.cell? ⟨X, 4, none⟩ = some (.slice A4 n c4)) (ce : wr.cell? (ad.add p) = some (.slice Ar k cr)) (w1 : wr.cell? ⟨G, 1, none⟩ = some (.slice Aw k cw)) (hpn : p < n)
    (hcall : ∀ W', Below wr.heap.size wr W' → Calls Try.prog 17 #[.slice Ar k cr, .slice Aw k cw] W' fun e w' => e = .returned (.bool true) ∧ Below wr.heap.size wr w')
    (hK : ∀ (v107 v108 v109 v110 v111 v112 v113 v114 v115 v116 v117 v118 v119 v120 v121 v122 v123 v124 v125 v126 v127 v128 v129 v130 v131 v132 v133 v134 v135 : Value) (V : World), Below wr.heap.size wr V → K
      ⟨#[u0, u1, .pointer (some ⟨X, 0, none⟩), u3, u4, u5, u6, .slice (some ad) n ct, u8, .pointer (some ⟨G, 0, none⟩), u10, u11, u12, u13, u14, u15, u16, u17, u18, u19, u20, u21, u22, u23,
      u24, u25, u26, u27, u28, u29, u30, u31, u32, u33, u34, u35, u36, u37, u38, u39, u40, u41, u42, u43, u44, u45, u46, u47, u48, u49, u50, u51, u52, u53, u54, u55, u56, u57, u58, u59,
      u60, u61, u62, u63, u64, u65, u66, u67, u68, u69, u70, u71, u72, u73, u74, u75, u76, u77, u78, u79, u80, u81, u82, u83, u84, u85, u86, u87, u88, u89, u90, u91, u92, u93, u94, u95,
      u96, u97, u98, u99, u100, u101, u102, u103, u104, u105, u106, v107, v108, v109, v110, v111, v112, v113, v114, v115, v116, v117, v118, v119, v120, v121, v122, v123, v124, v125, v126,
      v127, v128, v129, v130, v131, v132, v133, v134, v135, .bool false, u137, u138, u139, u140, u141, u142, u143, u144, u145, u146, u147, u148, u149, u150, u151, u152, u153, u154, u155,
      u156, u157, u158, u159, u160, u161, u162, u163, u164, u165, u166, u167, u168, u169, u170, u171, u172, u173, u174, u175, u176, u177, u178, u179, u180, u181, u182, u183, u184, u185,
      u186, u187, u188, u189, u190, u191, u192, u193, u194, u195, u196, u197, u198, u199, u200, u201, u202, u203, u204, u205, u206, u207, u208], []⟩ V) :
    (Code.region 14 ops true).wp Try.prog (Exit.then K Q')
      ⟨#[u0, u1, .pointer (some ⟨X, 0, none⟩), u3, u4, u5, u6, .slice (some ad) n ct, u8, .pointer (some ⟨G, 0, none⟩), u10, u11, u12, u13, u14, u15, u16, u17, u18, u19, u20, u21, u22, u23,
      u24, u25, u26, u27, u28, u29, u30, u31, u32, u33, u34, u35, u36, u37, u38, u39, u40, u41, u42, u43, u44, u45, u46, u47, u48, u49, u50, u51, u52, u53, u54, u55, u56, u57, u58, u59,
      u60, u61, u62, u63, u64, u65, u66, u67, u68, u69, u70, u71, u72, u73, u74, u75, u76, u77, u78, u79, u80, u81, u82, u83, u84, u85, u86, u87, u88, u89, u90, u91, u92, u93, u94, u95,
      u96, u97, u98, u99, u100, u101, u102, u103, u104, u105, u106, u107, u108, u109, u110, u111, u112, u113, u114, u115, u116, u117, u118, u119, u120, u121, u122, u123, u124, u125, u126,
      u127, u128, u129, u130, u131, u132, u133, u134, u135, u136, u137, u138, u139, u140, u141, u142, u143, u144, u145, u146, u147, u148, u149, u150, u151, u152, u153, u154, u155, u156,
      u157, u158, u159, u160, u161, u162, u163, u164, u165, u166, u167, u168, u169, u170, u171, u172, u173, u174, u175, u176, u177, u178, u179, u180, u181, u182, u183, u184, u185, u186,
      u187, u188, u189, u190, u191, u192, u193, u194, u195, u196, u197, u198, u199, u200, u201, u202, u203, u204, u205, u206, u207, u208], []⟩ wr := by
  rw [hops]
  clear hops ops
  simp only [opsOf, Try.f5, Option.bind, opsIn, Nat.reduceBEq, Bool.false_eq_true, ↓reduceIte, Option.getD]
  have hSof : ∀ W', Below wr.heap.size wr W' → (W'.cell? ⟨G, 0, none⟩ = some (.int .i64 p) ∧ W'.cell? ⟨X, 4, none⟩ = some (.slice A4 n c4) ∧ W'.cell? (ad.add p) = some (.slice Ar k cr) ∧ W'.cell? ⟨G, 1, none⟩ = some (.slice Aw k cw) ∧ Below wr.heap.size wr W') :=
    fun W' hb => ⟨pw_cell_below hb w0, pw_cell_below hb x4, pw_cell_below hb ce, pw_cell_below hb w1, hb⟩
  have d0 : decide ((p : Int) < 0) = false := by rw [decide_eq_false_iff_not]; omega
  have d1 : decide ((n : Int) ≤ (p : Int)) = false := by rw [decide_eq_false_iff_not]; omega
  have d1n : decide (n ≤ p) = false := by rw [decide_eq_false_iff_not]; omega
  have i1 : (p : Int) < (n : Int) := by omega
  have i0 : (0 : Int) ≤ (p : Int) := by omega
  have HSOF := hid_ hSof
  have HCALL := hid_ hcall
  have HK := hid_ hK
  clear hSof hcall hK
  go_region_held3 (fun w' => w'.cell? ⟨G, 0, none⟩ = some (.int .i64 p) ∧ w'.cell? ⟨X, 4, none⟩ = some (.slice A4 n c4) ∧ w'.cell? (ad.add p) = some (.slice Ar k cr) ∧ w'.cell? ⟨G, 1, none⟩ = some (.slice Aw k cw) ∧ Below wr.heap.size wr w') (first | assumption | exact HSOF.out _ (Below.refl _ _).drew) ((go_at_call 17; (with_reducible refine (HCALL.out _ (And.right (And.right (And.right (And.right (by assumption)))))).mono ?_); rintro e w1' ⟨rfl, bel1⟩; have hS1 := HSOF.out _ bel1))
  exact HK.out _ _ _ _ _ _ _ _ _ _ _ _ _ _ _ _ _ _ _ _ _ _ _ _ _ _ _ _ _ _ bel1
set_option maxHeartbeats 4000000 in
set_option maxRecDepth 100000 in
theorem runs_r16 {u0 u1 u3 u4 u5 u6 u7 u8 u10 u11 u12 u13 u14 u15 u16 u17 u18 u19 u20 u21 u22 u23 u24 u25 u26 u27 u28 u29 u30 u31 u32 u33 u34 u35 u36 u37 u38 u39 u40 u41 u42 u43 u44 u45 u46 u47 u48 u49 u50 u51 u52 u53 u54 u55 u56 u57 u58 u59 u60 u61 u62 u63 u64 u65 u66 u67 u68 u69 u70 u71 u72 u73 u74 u75 u76 u77 u78 u79 u80 u81 u82 u83 u84 u85 u86 u87 u88 u89 u90 u91 u92 u93 u94 u95 u96 u97 u98 u99 u100 u101 u102 u103 u104 u105 u106 u107 u108 u109 u110 u111 u112 u113 u114 u115 u116 u117 u118 u119 u120 u121 u122 u123 u124 u125 u126 u127 u128 u129 u130 u131 u132 u133 u134 u135 u136 u137 u138 u139 u140 u141 u142 u143 u144 u145 u146 u147 u148 u149 u150 u151 u152 u153 u154 u155 u156 u157 u158 u159 u160 u161 u162 u163 u164 u165 u166 u167 u168 u169 u170 u171 u172 u173 u174 u175 u176 u177 u178 u179 u180 u181 u182 u183 u184 u185 u186 u187 u188 u189 u190 u191 u192 u193 u194 u195 u196 u197 u198 u199 u200 u201 u202 u203 u204 u205 u206 u207 u208 : Value} {K : Act → World → Prop} {Q' : Exit → Act → World → Prop} {ops : Array Oper} (hops : ops = opsOf Try.f5 16) {V1 : World} {X G n c0 c1 c2 c3 c4 k cw p : Nat} {A0 A1 A2 A3 Aw : Option Addr} {a4 : Addr} {g : Pg} {deep : Int} {vw : Value} {x : S66}
 (hX : V1.heap[X]? = some (.cells #[.slice A0 g.T.length c0, .slice A1 g.N.length c1, .slice A2 g.S.length c2, .slice A3 g.M.length c3, .slice (some a4) g.C.length c4, .int .i64 g.dep, .int .i64 g.loc] 28 (0, 0))) (hG : V1.heap[G]? = some (.cells #[.int .i64 p, .slice Aw k cw, vw, .int .i64 deep] 63 (0, 0)))
 (hpn : p < g.C.length) (hQ : ∀ c (a : Act) i v w, Q' (.panic c) (a.put (some i) v) w → Q' (.panic c) a w)
 (k0 : V1.cell? (a4.add (p * 4)) = some (.int .i64 x.f0)) (k1 : V1.cell? ⟨(a4.add (p * 4)).block, (a4.add (p * 4)).off + 1, none⟩ = some (.int .i64 x.f1)) (k2 : V1.cell? ⟨(a4.add (p * 4)).block, (a4.add (p * 4)).off + 2, none⟩ = some (.int .i64 x.f2)) (k3 : V1.cell? ⟨(a4.add (p * 4)).block, (a4.add (p * 4)).off + 3, none⟩ = some (.int .i64 x.f3))
 (hK : ∀ (v137 v138 v139 v140 v141 v142 v143 v144 : Value) (b12 : Nat) (V2 : World), Below V1.heap.size V1 V2 → V2.heap[b12]? = some (.cells #[.int .i64 x.f0, .int .i64 x.f1, .int .i64 x.f2, .int .i64 x.f3] 66 (0, 0)) → K
  ⟨#[u0, u1, .pointer (some ⟨X, 0, none⟩), u3, u4, u5, u6, u7, u8, .pointer (some ⟨G, 0, none⟩), u10, u11, .pointer (some ⟨b12, 0, none⟩), u13, u14, u15, u16, u17, u18, u19, u20, u21,
  u22, u23, u24, u25, u26, u27, u28, u29, u30, u31, u32, u33, u34, u35, u36, u37, u38, u39, u40, u41, u42, u43, u44, u45, u46, u47, u48, u49, u50, u51, u52, u53, u54, u55, u56, u57,
  u58, u59, u60, u61, u62, u63, u64, u65, u66, u67, u68, u69, u70, u71, u72, u73, u74, u75, u76, u77, u78, u79, u80, u81, u82, u83, u84, u85, u86, u87, u88, u89, u90, u91, u92, u93,
  u94, u95, u96, u97, u98, u99, u100, u101, u102, u103, u104, u105, u106, u107, u108, u109, u110, u111, u112, u113, u114, u115, u116, u117, u118, u119, u120, u121, u122, u123, u124,
  u125, u126, u127, u128, u129, u130, u131, u132, u133, u134, u135, u136, v137, v138, v139, v140, v141, v142, v143, v144, u145, u146, u147, u148, u149, u150, u151, u152, u153, u154,
  u155, u156, u157, u158, u159, u160, u161, u162, u163, u164, u165, u166, u167, u168, u169, u170, u171, u172, u173, u174, u175, u176, u177, u178, u179, u180, u181, u182, u183, u184,
  u185, u186, u187, u188, u189, u190, u191, u192, u193, u194, u195, u196, u197, u198, u199, u200, u201, u202, u203, u204, u205, u206, u207, u208], []⟩ V2) :
 (Code.region 16 ops true).wp Try.prog (Exit.then K Q')
  ⟨#[u0, u1, .pointer (some ⟨X, 0, none⟩), u3, u4, u5, u6, u7, u8, .pointer (some ⟨G, 0, none⟩), u10, u11, u12, u13, u14, u15, u16, u17, u18, u19, u20, u21, u22, u23, u24, u25, u26, u27,
  u28, u29, u30, u31, u32, u33, u34, u35, u36, u37, u38, u39, u40, u41, u42, u43, u44, u45, u46, u47, u48, u49, u50, u51, u52, u53, u54, u55, u56, u57, u58, u59, u60, u61, u62, u63,
  u64, u65, u66, u67, u68, u69, u70, u71, u72, u73, u74, u75, u76, u77, u78, u79, u80, u81, u82, u83, u84, u85, u86, u87, u88, u89, u90, u91, u92, u93, u94, u95, u96, u97, u98, u99,
  u100, u101, u102, u103, u104, u105, u106, u107, u108, u109, u110, u111, u112, u113, u114, u115, u116, u117, u118, u119, u120, u121, u122, u123, u124, u125, u126, u127, u128, u129,
  u130, u131, u132, u133, u134, u135, u136, u137, u138, u139, u140, u141, u142, u143, u144, u145, u146, u147, u148, u149, u150, u151, u152, u153, u154, u155, u156, u157, u158, u159,
  u160, u161, u162, u163, u164, u165, u166, u167, u168, u169, u170, u171, u172, u173, u174, u175, u176, u177, u178, u179, u180, u181, u182, u183, u184, u185, u186, u187, u188, u189,
  u190, u191, u192, u193, u194, u195, u196, u197, u198, u199, u200, u201, u202, u203, u204, u205, u206, u207, u208], []⟩ V1 := by
 rw [hops]
 clear hops ops
 simp only [opsOf, Try.f5, Option.bind, opsIn, Nat.reduceBEq, Bool.false_eq_true, ↓reduceIte, Option.getD]
 have HXV := hid_ hX
 have HGV := hid_ hG
 have HCV := hid_ (And.intro k0 (And.intro k1 (And.intro k2 k3)))
 have HK := hid_ hK
 have HQ := hid_ hQ
 clear hQ
 have i1 : (p : Int) < (g.C.length : Int) := by omega
 have i0 : (0 : Int) ≤ (p : Int) := by omega
 have d1n : decide (g.C.length ≤ p) = false := by rw [decide_eq_false_iff_not]; omega
 clear hX hG k0 k1 k2 k3 hK
 refine start_ (n := 10) (S := fun w' => Below V1.heap.size V1 w') (ds := [9]) (bm 10 0) (by kernel_rfl) rfl (by kernel_rfl) (Below.refl _ _).drew (fun hHeld => ?_)
 refine with_tabW runs.tab16 runs.bits16 (fun HT_ HW_ => ?_)
 refine pure_ (i := 0) (N := some 137) (v := ?_) (a' := ?_) (bm 10 1) rfl rfl (any_of HT_.out (by kernel_rfl)) (fun _ _ _ h => HQ.out _ _ _ _ _ h) (Or.inl ⟨by rfl, ?_⟩) ?_ ?_
 rotate_left
 ·
  intro w'
  go_simp
  with_reducible rfl
 rotate_left
 ·
  simp only [Act.put, List.setIfInBounds_toArray, List.set_cons_zero, List.set_cons_succ]
  rfl
 refine pure_ (i := 2) (N := some 139) (v := ?_) (a' := ?_) (bm 10 5) rfl rfl (any_of HT_.out (by kernel_rfl)) (fun _ _ _ h => HQ.out _ _ _ _ _ h) (Or.inl ⟨by rfl, ?_⟩) ?_ ?_
 rotate_left
 ·
  intro w'
  go_simp
  with_reducible rfl
 rotate_left
 ·
  simp only [Act.put, List.setIfInBounds_toArray, List.set_cons_zero, List.set_cons_succ]
  rfl
 refine pure_ (i := 3) (N := some 140) (v := ?_) (a' := ?_) (bm 10 13) rfl rfl (any_of HT_.out (by kernel_rfl)) (fun _ _ _ h => HQ.out _ _ _ _ _ h) (Or.inl ⟨by rfl, ?_⟩) ?_ ?_
 rotate_left
 ·
  intro w'
  go_simp
  with_reducible rfl
 rotate_left
 ·
  simp only [Act.put, List.setIfInBounds_toArray, List.set_cons_zero, List.set_cons_succ]
  rfl
 refine pure_ (i := 4) (N := some 141) (v := ?_) (a' := ?_) (bm 10 29) rfl rfl (any_of HT_.out (by kernel_rfl)) (fun _ _ _ h => HQ.out _ _ _ _ _ h) (Or.inl ⟨by rfl, ?_⟩) ?_ ?_
 rotate_left
 ·
  intro w'
  go_simp
  with_reducible rfl
 rotate_left
 ·
  simp only [Act.put, List.setIfInBounds_toArray, List.set_cons_zero, List.set_cons_succ]
  rfl
 refine take_ (i := 1) (N := some 138) (v := ?_) (a' := ?_) (bm 10 31) rfl rfl (take_ofW HT_.out HW_.out (by kernel_rfl)) (fun _ _ _ h => HQ.out _ _ _ _ _ h) (Or.inl ⟨by rfl, ?_⟩) hHeld ?_ ?_
 rotate_left
 ·
  intro w' hS'
  obtain ⟨x0, x1, x2, x3, x4, x5, x6⟩ := cells7 (blk_next HXV.out hS')
  go_simp
  with_reducible rfl
 rotate_left
 ·
  simp only [Act.put, List.setIfInBounds_toArray, List.set_cons_zero, List.set_cons_succ]
  rfl
 refine take_ (i := 5) (N := some 142) (v := ?_) (a' := ?_) (bm 10 63) rfl rfl (take_ofW HT_.out HW_.out (by kernel_rfl)) (fun _ _ _ h => HQ.out _ _ _ _ _ h) (Or.inl ⟨by rfl, ?_⟩) hHeld ?_ ?_
 rotate_left
 ·
  intro w' hS'
  obtain ⟨z0, z1, z2, z3⟩ := cells4 (blk_next HGV.out hS')
  go_simp
  with_reducible rfl
 rotate_left
 ·
  simp only [Act.put, List.setIfInBounds_toArray, List.set_cons_zero, List.set_cons_succ]
  rfl
 refine pure_ (i := 6) (N := some 143) (v := ?_) (a' := ?_) (bm 10 127) rfl rfl (any_of HT_.out (by kernel_rfl)) (fun _ _ _ h => HQ.out _ _ _ _ _ h) (Or.inl ⟨by rfl, ?_⟩) ?_ ?_
 rotate_left
 ·
  intro w'
  go_simp
  with_reducible rfl
 rotate_left
 ·
  simp only [Act.put, List.setIfInBounds_toArray, List.set_cons_zero, List.set_cons_succ]
  rfl
 refine take_ (i := 7) (N := some 144) (v := ?_) (a' := ?_) (bm 10 255) rfl rfl (take_ofW HT_.out HW_.out (by kernel_rfl)) (fun _ _ _ h => HQ.out _ _ _ _ _ h) (Or.inl ⟨by rfl, ?_⟩) hHeld ?_ ?_
 rotate_left
 ·
  intro w' hS'
  have c0' := pw_cell_below hS' HCV.out.1
  have c1' := pw_cell_below hS' HCV.out.2.1
  have c2' := pw_cell_below hS' HCV.out.2.2.1
  have c3' := pw_cell_below hS' HCV.out.2.2.2
  go_simp
  with_reducible rfl
 rotate_left
 ·
  simp only [Act.put, List.setIfInBounds_toArray, List.set_cons_zero, List.set_cons_succ]
  rfl
 refine one_ (i := 8) (N := some 12) (bm 10 511) rfl rfl (one_of HT_.out (by kernel_rfl)) (by decide) (fun K hK => ?_)
 refine box_step (cs := #[.int .i64 0, .int .i64 0, .int .i64 0, .int .i64 0]) (t := 66) (by rfl) rfl (by first | (go_simp; done) | (go_simp; rfl)) ?_
 intro b12 hb12 w2 hA hBa
 have hLast := hHeld.size
 refine hK.out _ _ (hHeld.trans (hBa.mono hHeld.size)) (fun hHeld => ?_)
 clear hK K
 refine norm_ (a' := ?_) ?_ ?_
 rotate_left
 ·
  show Act.put _ (some 12) _ = _
  simp only [Act.put, List.setIfInBounds_toArray, List.set_cons_zero, List.set_cons_succ]
  rfl
 refine last_ (i := 9) (N := none) (bm 10 1023) rfl rfl (one_of HT_.out (by kernel_rfl)) (by decide) (fun K hK => ?_)
 rw [if_pos (by rfl)]
 refine wp_store_row 66 (.tmp 12) (.tmp 144) rfl b12 #[.int .i64 x.f0, .int .i64 x.f1, .int .i64 x.f2, .int .i64 x.f3] rfl rfl 66 #[.int .i64 0, .int .i64 0, .int .i64 0, .int .i64 0] hA (by kernel_rfl) rfl (by simp [Array.all, Value.oneCell']) ?_
 have hb12' : V1.heap.size ≤ b12 := by rw [hb12]; exact hLast
 have hB2 : Below V1.heap.size V1 (w2.setRow b12 #[.int .i64 x.f0, .int .i64 x.f1, .int .i64 x.f2, .int .i64 x.f3]) := below_setRow hHeld hb12' _
 have hX12 := setRow_heap _ _ _ #[.int .i64 x.f0, .int .i64 x.f1, .int .i64 x.f2, .int .i64 x.f3] _ _ hA
 refine hK.out _ _ ?_
 clear hK K
 refine done_ (done_of HT_.out (by kernel_rfl)) ?_
 exact HK.out _ _ _ _ _ _ _ _ _ _ hB2 hX12
set_option maxHeartbeats 4000000 in
set_option maxRecDepth 100000 in
theorem runs_r18 {u0 u1 u3 u4 u6 u7 u8 u10 u11 u12 u13 u14 u15 u16 u17 u18 u19 u20 u21 u22 u23 u24 u25 u26 u27 u28 u29 u30 u31 u32 u33 u34 u35 u36 u37 u38 u39 u40 u41 u42 u43 u44 u45 u46 u47 u48 u49 u50 u51 u52 u53 u54 u55 u56 u57 u58 u59 u60 u61 u62 u63 u64 u65 u66 u67 u68 u69 u70 u71 u72 u73 u74 u75 u76 u77 u78 u79 u80 u81 u82 u83 u84 u85 u86 u87 u88 u89 u90 u91 u92 u93 u94 u95 u96 u97 u98 u99 u100 u101 u102 u103 u104 u105 u106 u107 u108 u109 u110 u111 u112 u113 u114 u115 u116 u117 u118 u119 u120 u121 u122 u123 u124 u125 u126 u127 u128 u129 u130 u131 u132 u133 u134 u135 u136 u137 u138 u139 u140 u141 u142 u143 u144 u145 u146 u147 u148 u149 u150 u151 u152 u153 u154 u155 u156 u157 u158 u159 u160 u161 u162 u163 u164 u165 u166 u167 u168 u169 u170 u171 u172 u173 u174 u175 u176 u177 u178 u179 u180 u181 u182 u183 u184 u185 u186 u187 u188 u189 u190 u191 u192 u193 u194 u195 u196 u197 u198 u199 u200 u201 u202 u203 u204 u205 u206 u207 u208 : Value} {K : Act → World → Prop} {Q' : Exit → Act → World → Prop} {ops : Array Oper} (hops : ops = opsOf Try.f5 18) {V2 : World} {X G T5 n c4 cw2 p : Nat} {A4 : Option Addr} {aw : Addr} {deep most : Int}
    (z0 : V2.cell? ⟨G, 0, none⟩ = some (.int .i64 p)) (x4 : V2.cell? ⟨X, 4, none⟩ = some (.slice A4 n c4)) (z1 : V2.cell? ⟨G, 1, none⟩ = some (.slice (some aw) 1 cw2)) (caw2 : V2.cell? aw = some (.int .i64 1)) (z3 : V2.cell? ⟨G, 3, none⟩ = some (.int .i64 deep)) (y0 : V2.cell? ⟨T5, 0, none⟩ = some (.int .i64 most))
    (en : IntKind.i64.wrap ((n : Int) - 1) = (p : Int)) (dd : decide (deep ≤ most) = true)
    (hK : ∀ (v148 v149 v150 v151 v152 v153 v154 v155 v156 v157 v158 v159 v160 v161 v162 v163 v164 v165 v166 v167 v168 v169 v170 v171 v172 v173 v174 v175 v176 v177 v178 v179 v180 v181 v182 : Value) (W' : World), Below V2.heap.size V2 W' → K
      ⟨#[u0, u1, .pointer (some ⟨X, 0, none⟩), u3, .bool true, .pointer (some ⟨T5, 0, none⟩), u6, u7, u8, .pointer (some ⟨G, 0, none⟩), u10, u11, u12, u13, u14, u15, u16, u17, u18, u19, u20,
      u21, u22, u23, u24, u25, u26, u27, u28, u29, u30, u31, u32, u33, u34, u35, u36, u37, u38, u39, u40, u41, u42, u43, u44, u45, u46, u47, u48, u49, u50, u51, u52, u53, u54, u55, u56,
      u57, u58, u59, u60, u61, u62, u63, u64, u65, u66, u67, u68, u69, u70, u71, u72, u73, u74, u75, u76, u77, u78, u79, u80, u81, u82, u83, u84, u85, u86, u87, u88, u89, u90, u91, u92,
      u93, u94, u95, u96, u97, u98, u99, u100, u101, u102, u103, u104, u105, u106, u107, u108, u109, u110, u111, u112, u113, u114, u115, u116, u117, u118, u119, u120, u121, u122, u123,
      u124, u125, u126, u127, u128, u129, u130, u131, u132, u133, u134, u135, u136, u137, u138, u139, u140, u141, u142, u143, u144, u145, u146, u147, v148, v149, v150, v151, v152, v153,
      v154, v155, v156, v157, v158, v159, v160, v161, v162, v163, v164, v165, v166, v167, v168, v169, v170, v171, v172, v173, v174, v175, v176, v177, v178, v179, v180, v181, v182, u183,
      u184, u185, u186, u187, u188, u189, u190, u191, u192, u193, u194, u195, u196, u197, u198, u199, u200, u201, u202, u203, u204, u205, u206, u207, u208], []⟩ W') :
    (Code.region 18 ops true).wp Try.prog (Exit.then K Q')
      ⟨#[u0, u1, .pointer (some ⟨X, 0, none⟩), u3, u4, .pointer (some ⟨T5, 0, none⟩), u6, u7, u8, .pointer (some ⟨G, 0, none⟩), u10, u11, u12, u13, u14, u15, u16, u17, u18, u19, u20, u21,
      u22, u23, u24, u25, u26, u27, u28, u29, u30, u31, u32, u33, u34, u35, u36, u37, u38, u39, u40, u41, u42, u43, u44, u45, u46, u47, u48, u49, u50, u51, u52, u53, u54, u55, u56, u57,
      u58, u59, u60, u61, u62, u63, u64, u65, u66, u67, u68, u69, u70, u71, u72, u73, u74, u75, u76, u77, u78, u79, u80, u81, u82, u83, u84, u85, u86, u87, u88, u89, u90, u91, u92, u93,
      u94, u95, u96, u97, u98, u99, u100, u101, u102, u103, u104, u105, u106, u107, u108, u109, u110, u111, u112, u113, u114, u115, u116, u117, u118, u119, u120, u121, u122, u123, u124,
      u125, u126, u127, u128, u129, u130, u131, u132, u133, u134, u135, u136, u137, u138, u139, u140, u141, u142, u143, u144, u145, u146, u147, u148, u149, u150, u151, u152, u153, u154,
      u155, u156, u157, u158, u159, u160, u161, u162, u163, u164, u165, u166, u167, u168, u169, u170, u171, u172, u173, u174, u175, u176, u177, u178, u179, u180, u181, u182, u183, u184,
      u185, u186, u187, u188, u189, u190, u191, u192, u193, u194, u195, u196, u197, u198, u199, u200, u201, u202, u203, u204, u205, u206, u207, u208], []⟩ V2 := by
  rw [hops]
  clear hops ops
  simp only [opsOf, Try.f5, Option.bind, opsIn, Nat.reduceBEq, Bool.false_eq_true, ↓reduceIte, Option.getD]
  have HK := hid_ hK
  clear hK
  go_region_held3 (fun w' => (w'.cell? ⟨G, 0, none⟩ = some (.int .i64 p) ∧ w'.cell? ⟨X, 4, none⟩ = some (.slice A4 n c4) ∧ w'.cell? ⟨G, 1, none⟩ = some (.slice (some aw) 1 cw2) ∧ w'.cell? aw = some (.int .i64 1) ∧ w'.cell? ⟨G, 3, none⟩ = some (.int .i64 deep) ∧ w'.cell? ⟨T5, 0, none⟩ = some (.int .i64 most))) (go_keep) (fail)
  exact HK.out _ _ _ _ _ _ _ _ _ _ _ _ _ _ _ _ _ _ _ _ _ _ _ _ _ _ _ _ _ _ _ _ _ _ _ _ (Below.refl _ _).drew
set_option maxHeartbeats 4000000 in
set_option maxRecDepth 100000 in
theorem runs_r20 {u0 u1 u2 u3 u4 u5 u6 u7 u8 u9 u10 u11 u13 u14 u15 u16 u17 u18 u19 u20 u21 u22 u23 u24 u25 u26 u27 u28 u29 u30 u31 u32 u33 u34 u35 u36 u37 u38 u39 u40 u41 u42 u43 u44 u45 u46 u47 u48 u49 u50 u51 u52 u53 u54 u55 u56 u57 u58 u59 u60 u61 u62 u63 u64 u65 u66 u67 u68 u69 u70 u71 u72 u73 u74 u75 u76 u77 u78 u79 u80 u81 u82 u83 u84 u85 u86 u87 u88 u89 u90 u91 u92 u93 u94 u95 u96 u97 u98 u99 u100 u101 u102 u103 u104 u105 u106 u107 u108 u109 u110 u111 u112 u113 u114 u115 u116 u117 u118 u119 u120 u121 u122 u123 u124 u125 u126 u127 u128 u129 u130 u131 u132 u133 u134 u135 u136 u137 u138 u139 u140 u141 u142 u143 u144 u145 u146 u147 u148 u149 u150 u151 u152 u153 u154 u155 u156 u157 u158 u159 u160 u161 u162 u163 u164 u165 u166 u167 u168 u169 u170 u171 u172 u173 u174 u175 u176 u177 u178 u179 u180 u181 u182 u183 u184 u185 u186 u187 u188 u189 u190 u191 u192 u193 u194 u195 u196 u197 u198 u199 u200 u201 u202 u203 u204 u205 u206 u207 u208 : Value} {K : Act → World → Prop} {Q' : Exit → Act → World → Prop} {ops : Array Oper} (hops : ops = opsOf Try.f5 20) {V2 : World} {b12 : Nat} {f0 : Int} {jb : Bool}
 (q0 : V2.cell? ⟨b12, 0, none⟩ = some (.int .i64 f0)) (hjb : jb = (decide (f0 = 33) || decide (f0 = 34)))
 (hK : ∀ (v183 v184 v185 v186 v187 v188 v189 : Value) , K
  ⟨#[u0, u1, u2, u3, u4, u5, u6, u7, u8, u9, u10, u11, .pointer (some ⟨b12, 0, none⟩), u13, u14, u15, u16, u17, u18, u19, u20, u21, u22, u23, u24, u25, u26, u27, u28, u29, u30, u31, u32,
  u33, u34, u35, u36, u37, u38, u39, u40, u41, u42, u43, u44, u45, u46, u47, u48, u49, u50, u51, u52, u53, u54, u55, u56, u57, u58, u59, u60, u61, u62, u63, u64, u65, u66, u67, u68,
  u69, u70, u71, u72, u73, u74, u75, u76, u77, u78, u79, u80, u81, u82, u83, u84, u85, u86, u87, u88, u89, u90, u91, u92, u93, u94, u95, u96, u97, u98, u99, u100, u101, u102, u103,
  u104, u105, u106, u107, u108, u109, u110, u111, u112, u113, u114, u115, u116, u117, u118, u119, u120, u121, u122, u123, u124, u125, u126, u127, u128, u129, u130, u131, u132, u133,
  u134, u135, u136, u137, u138, u139, u140, u141, u142, u143, u144, u145, u146, u147, u148, u149, u150, u151, u152, u153, u154, u155, u156, u157, u158, u159, u160, u161, u162, u163,
  u164, u165, u166, u167, u168, u169, u170, u171, u172, u173, u174, u175, u176, u177, u178, u179, u180, u181, u182, v183, v184, v185, v186, v187, v188, v189, .bool jb, u191, u192,
  u193, u194, u195, u196, u197, u198, u199, u200, u201, u202, u203, u204, u205, u206, u207, u208], []⟩ V2) :
 (Code.region 20 ops false).wp Try.prog (Exit.then K Q')
  ⟨#[u0, u1, u2, u3, u4, u5, u6, u7, u8, u9, u10, u11, .pointer (some ⟨b12, 0, none⟩), u13, u14, u15, u16, u17, u18, u19, u20, u21, u22, u23, u24, u25, u26, u27, u28, u29, u30, u31, u32,
  u33, u34, u35, u36, u37, u38, u39, u40, u41, u42, u43, u44, u45, u46, u47, u48, u49, u50, u51, u52, u53, u54, u55, u56, u57, u58, u59, u60, u61, u62, u63, u64, u65, u66, u67, u68,
  u69, u70, u71, u72, u73, u74, u75, u76, u77, u78, u79, u80, u81, u82, u83, u84, u85, u86, u87, u88, u89, u90, u91, u92, u93, u94, u95, u96, u97, u98, u99, u100, u101, u102, u103,
  u104, u105, u106, u107, u108, u109, u110, u111, u112, u113, u114, u115, u116, u117, u118, u119, u120, u121, u122, u123, u124, u125, u126, u127, u128, u129, u130, u131, u132, u133,
  u134, u135, u136, u137, u138, u139, u140, u141, u142, u143, u144, u145, u146, u147, u148, u149, u150, u151, u152, u153, u154, u155, u156, u157, u158, u159, u160, u161, u162, u163,
  u164, u165, u166, u167, u168, u169, u170, u171, u172, u173, u174, u175, u176, u177, u178, u179, u180, u181, u182, u183, u184, u185, u186, u187, u188, u189, u190, u191, u192, u193,
  u194, u195, u196, u197, u198, u199, u200, u201, u202, u203, u204, u205, u206, u207, u208], []⟩ V2 := by
 rw [hops]
 clear hops ops
 simp only [opsOf, Try.f5, Option.bind, opsIn, Nat.reduceBEq, Bool.false_eq_true, ↓reduceIte, Option.getD]
 by_cases g1 : f0 = 33
 ·
  have r1 : (f0 == 33) = true := by rw [g1]; rfl
  have r2 : jb = true := by rw [hjb, decide_eq_true g1]; rfl
  clear hjb g1
  have R2 := hid_ r2
  have HK := hid_ hK
  clear r2 hK
  go_wp2_with (fail)
  rw [R2.out] at HK
  exact HK.out _ _ _ _ _ _ _
 ·
  have r1 : (f0 == 33) = false := by rw [beq_eq_false_iff_ne]; exact g1
  by_cases g2 : f0 = 34
  ·
   have r3 : (f0 == 34) = true := by rw [g2]; rfl
   have r2 : jb = true := by rw [hjb, decide_eq_true g2, Bool.or_true]
   clear hjb g1 g2
   have R2 := hid_ r2
   have HK := hid_ hK
   clear r2 hK
   go_wp2_with (fail)
   rw [R2.out] at HK
   exact HK.out _ _ _ _ _ _ _
  ·
   have r3 : (f0 == 34) = false := by rw [beq_eq_false_iff_ne]; exact g2
   have r2 : jb = false := by rw [hjb, decide_eq_false g1, decide_eq_false g2]; rfl
   clear hjb g1 g2
   have R2 := hid_ r2
   have HK := hid_ hK
   clear r2 hK
   go_wp2_with (fail)
   rw [R2.out] at HK
   exact HK.out _ _ _ _ _ _ _
set_option maxHeartbeats 4000000 in
set_option maxRecDepth 100000 in
theorem runs_r21 {u0 u2 u3 u4 u5 u6 u7 u8 u9 u11 u12 u13 u14 u15 u16 u17 u18 u19 u20 u21 u22 u23 u24 u25 u26 u27 u28 u29 u30 u31 u32 u33 u34 u35 u36 u37 u38 u39 u40 u41 u42 u43 u44 u45 u46 u47 u48 u49 u50 u51 u52 u53 u54 u55 u56 u57 u58 u59 u60 u61 u62 u63 u64 u65 u66 u67 u68 u69 u70 u71 u72 u73 u74 u75 u76 u77 u78 u79 u80 u81 u82 u83 u84 u85 u86 u87 u88 u89 u90 u91 u92 u93 u94 u95 u96 u97 u98 u99 u100 u101 u102 u103 u104 u105 u106 u107 u108 u109 u110 u111 u112 u113 u114 u115 u116 u117 u118 u119 u120 u121 u122 u123 u124 u125 u126 u127 u128 u129 u130 u131 u132 u133 u134 u135 u136 u137 u138 u139 u140 u141 u142 u143 u144 u145 u146 u147 u148 u149 u150 u151 u152 u153 u154 u155 u156 u157 u158 u159 u160 u161 u162 u163 u164 u165 u166 u167 u168 u169 u170 u171 u172 u173 u174 u175 u176 u177 u178 u179 u180 u181 u182 u183 u184 u185 u186 u187 u188 u189 u190 u191 u192 u193 u194 u195 u196 u197 u198 u199 u200 u201 u202 u203 u204 u205 u206 u207 u208 : Value} {K : Act → World → Prop} {Q' : Exit → Act → World → Prop} {ops : Array Oper} (hops : ops = opsOf Try.f5 21) {V2 : World} {Aj : Option Addr} {cj t : Nat} {js : List Bool}
 (hJ : Kd.C Kd.bool V2 Aj js.length js)
 (hK : ∀ (v191 v192 v193 v194 v195 v196 v197 v198 v199 v200 : Value) (b : Bool), K
  ⟨#[u0, .slice Aj js.length cj, u2, u3, u4, u5, u6, u7, u8, u9, .int .i64 t, u11, u12, .bool b, u14, u15, u16, u17, u18, u19, u20, u21, u22, u23, u24, u25, u26, u27, u28, u29, u30, u31,
  u32, u33, u34, u35, u36, u37, u38, u39, u40, u41, u42, u43, u44, u45, u46, u47, u48, u49, u50, u51, u52, u53, u54, u55, u56, u57, u58, u59, u60, u61, u62, u63, u64, u65, u66, u67,
  u68, u69, u70, u71, u72, u73, u74, u75, u76, u77, u78, u79, u80, u81, u82, u83, u84, u85, u86, u87, u88, u89, u90, u91, u92, u93, u94, u95, u96, u97, u98, u99, u100, u101, u102,
  u103, u104, u105, u106, u107, u108, u109, u110, u111, u112, u113, u114, u115, u116, u117, u118, u119, u120, u121, u122, u123, u124, u125, u126, u127, u128, u129, u130, u131, u132,
  u133, u134, u135, u136, u137, u138, u139, u140, u141, u142, u143, u144, u145, u146, u147, u148, u149, u150, u151, u152, u153, u154, u155, u156, u157, u158, u159, u160, u161, u162,
  u163, u164, u165, u166, u167, u168, u169, u170, u171, u172, u173, u174, u175, u176, u177, u178, u179, u180, u181, u182, u183, u184, u185, u186, u187, u188, u189, u190, v191, v192,
  v193, v194, v195, v196, v197, v198, v199, v200, u201, u202, u203, u204, u205, u206, u207, u208], []⟩ V2) :
 (Code.region 21 ops false).wp Try.prog (Exit.then K Q')
  ⟨#[u0, .slice Aj js.length cj, u2, u3, u4, u5, u6, u7, u8, u9, .int .i64 t, u11, u12, u13, u14, u15, u16, u17, u18, u19, u20, u21, u22, u23, u24, u25, u26, u27, u28, u29, u30, u31,
  u32, u33, u34, u35, u36, u37, u38, u39, u40, u41, u42, u43, u44, u45, u46, u47, u48, u49, u50, u51, u52, u53, u54, u55, u56, u57, u58, u59, u60, u61, u62, u63, u64, u65, u66, u67,
  u68, u69, u70, u71, u72, u73, u74, u75, u76, u77, u78, u79, u80, u81, u82, u83, u84, u85, u86, u87, u88, u89, u90, u91, u92, u93, u94, u95, u96, u97, u98, u99, u100, u101, u102,
  u103, u104, u105, u106, u107, u108, u109, u110, u111, u112, u113, u114, u115, u116, u117, u118, u119, u120, u121, u122, u123, u124, u125, u126, u127, u128, u129, u130, u131, u132,
  u133, u134, u135, u136, u137, u138, u139, u140, u141, u142, u143, u144, u145, u146, u147, u148, u149, u150, u151, u152, u153, u154, u155, u156, u157, u158, u159, u160, u161, u162,
  u163, u164, u165, u166, u167, u168, u169, u170, u171, u172, u173, u174, u175, u176, u177, u178, u179, u180, u181, u182, u183, u184, u185, u186, u187, u188, u189, u190, u191, u192,
  u193, u194, u195, u196, u197, u198, u199, u200, u201, u202, u203, u204, u205, u206, u207, u208], []⟩ V2 := by
 rw [hops]
 clear hops ops
 simp only [opsOf, Try.f5, Option.bind, opsIn, Nat.reduceBEq, Bool.false_eq_true, ↓reduceIte, Option.getD]
 have HK := hid_ hK
 clear hK
 by_cases hlt : t < js.length
 ·
  obtain ⟨aj, cs, haj, -, hk, hcj2⟩ := Kd.C_get hJ false (t : Int) (by omega) (by omega)
  subst haj
  obtain rfl : cs = [.bool (js.getD (t : Int).toNat false)] := hk
  have kj := hcj2 0 _ rfl
  rw [show (t : Int).toNat * Kd.bool.sz + 0 = t by simp [Kd.bool, Kd.scalar]] at kj
  have it : (t : Int) < (js.length : Int) := by omega
  have it2 : decide (t < js.length) = true := by rw [decide_eq_true_eq]; exact hlt
  have it0 : (0 : Int) ≤ (t : Int) := by omega
  generalize js.getD (t : Int).toNat false = jv at kj
  clear hJ
  go_wp2_with (fail)
  exact HK.out _ _ _ _ _ _ _ _ _ _ _
 ·
  have it2 : decide (t < js.length) = false := by rw [decide_eq_false_iff_not]; exact hlt
  clear hJ
  go_wp2_with (fail)
  exact HK.out _ _ _ _ _ _ _ _ _ _ _
end Go.Proofs.Ytbnplhmmbnmagaa.D
namespace Go.Proofs.Ytbnplhmmbnmagaa.D
open Go.RowKit Go.Proofs.YtbnplhmmbnmagaaW.PrintWords Go.Proofs.YtbnplhmmbnmagaaW.PrintLast Go.Proofs.YtbnplhmmbnmagaaW.PrintMore Go.Proofs.Ytbnplhmmbnmagaa.All
set_option linter.unusedSimpArgs false
set_option linter.unusedVariables false
structure StR (w Wq : World) (X T5 : Nat) (A0 A1 A2 A3 A4 : Option Addr) (c0 c1 c2 c3 c4 : Nat) (g : Pg) (m : Int) (At : Option Addr) (told : List (List Int)) (Aj : Option Addr) (js : List Bool) : Prop where
  below : Below w.heap.size w Wq
  box : Wq.heap[X]? = some (.cells #[.slice A0 g.T.length c0, .slice A1 g.N.length c1, .slice A2 g.S.length c2, .slice A3 g.M.length c3, .slice A4 g.C.length c4, .int .i64 g.dep, .int .i64 g.loc] 28 (0, 0))
  code : Kd.C k66 Wq A4 g.C.length g.C
  shape : Wq.heap[T5]? = some (.cells #[.int .i64 m, .int .i64 g.C.length] 31 (0, 0))
  stacks : told2.C Wq At told.length told
  jumps : Kd.C Kd.bool Wq Aj js.length js
theorem told_at {W : World} {A : Option Addr} {told : List (List Int)} (h : told2.C W A told.length told) (p : Nat) (hp : p < told.length) :
    ∃ ad, A = some ad ∧ ∃ Ar cr, W.cell? (ad.add p) = some (.slice Ar (told.getD p []).length cr) ∧ (told.getD p []).length ≤ cr ∧ Kd.C (Kd.int .i64) W Ar (told.getD p []).length (told.getD p []) := by
  obtain ⟨ad, cs, he, -, ⟨Ar, cr, rfl, hl, hC⟩, hc⟩ := Kd.C_get h [] (p : Int) (by omega) (by omega)
  have h0 := hc 0 _ rfl
  rw [Int.toNat_natCast] at h0 hl hC
  rw [show p * told2.sz + 0 = p by simp [told2, Kd.slice]] at h0
  exact ⟨ad, he, Ar, cr, h0, hl, hC⟩
set_option maxHeartbeats 4000000 in
set_option maxRecDepth 100000 in
theorem runs_any (w : World) (A0 A1 A2 A3 A4 : Option Addr) (c0 c1 c2 c3 c4 : Nat) (g : Pg) (hI : InPg w A0 A1 A2 A3 A4 c0 c1 c2 c3 c4 g) (fb : FitsB g) (Aj : Option Addr) (cj : Nat) (js : List Bool) (hJ : Kd.C Kd.bool w Aj js.length js) (hcj : js.length ≤ cj) :
 Calls Try.prog 5 #[valPg A0 A1 A2 A3 A4 c0 c1 c2 c3 c4 g, .slice Aj js.length cj] w fun e w' => e = .returned (.bool true) ∧ Below w.heap.size w w' := by
 have f := fb.fits
 have st := StL.start w hI
 have hJ0 := Kd.C_below hJ (below_alloc (Below.refl w.heap.size w) (.cells #[.slice A0 g.T.length c0, .slice A1 g.N.length c1, .slice A2 g.S.length c2, .slice A3 g.M.length c3, .slice A4 g.C.length c4, .int .i64 g.dep, .int .i64 g.loc] 28))
 clear hI hJ
 unfold valPg
 go_enter Try.func5, Try.ntmps5
 go_upto_region 1 with (fail)
 generalize w.alloc (.cells #[.slice A0 g.T.length c0, .slice A1 g.N.length c1, .slice A2 g.S.length c2, .slice A3 g.M.length c3, .slice A4 g.C.length c4, .int .i64 g.dep, .int .i64 g.loc] 28) = W0 at st hJ0 ⊢
 have ST0 := hid_ st
 clear st
 go_wp2_with (fail)
 refine (wakes_any _).mono ?_
 rintro e W1 ⟨rfl, bel⟩
 have ST1 := hid_ (ST0.out.next bel)
 have hJ1 := Kd.C_below hJ0 bel
 clear ST0 bel hJ0
 go_upto_region 3 with (fail)
 obtain ⟨x0, x1, x2, x3, x4, x5, x6⟩ := cells7 ST1.out.box
 go_wp2_with (fail)
 clear x0 x1 x2 x3 x4 x5 x6
 refine (show Calls _ _ _ _ _ from copy_any W1 A0 A1 A2 A3 A4 c0 c1 c2 c3 c4 g ST1.out.pg fb).mono ?_
 rintro e W2 ⟨B0, B1, B2, B3, B4, e0, e1, e2, e3, e4, rfl, hI2, bel⟩
 have ST2 := hid_ (ST1.out.next bel)
 have hJ2 := Kd.C_below hJ1 bel
 clear ST1 bel hJ1
 go_wp2_with (fail)
 refine (show Calls _ _ _ _ _ from prog_u W2 B0 B1 B2 B3 B4 e0 e1 e2 e3 e4 g hI2 f).mono ?_
 rintro e W3 ⟨ev, rfl, hev, bel⟩
 have ST3 := hid_ (ST2.out.next bel)
 have hJ3 := Kd.C_below hJ2 bel
 clear ST2 bel hI2 hJ2
 generalize hm : mostR (auditP g) = most
 generalize hs : stepsR g.C.length (auditP g) = steps
 have HM := hid_ hm
 have HS := hid_ hs
 clear hm hs
 go_upto_region 4 with (fail)
 have bel := below_alloc (Below.refl W3.heap.size W3) (.cells #[.int .i64 most, .int .i64 steps] 31)
 have s4 := heap_alloc_new W3 (.cells #[.int .i64 most, .int .i64 steps] 31)
 have ST4 := hid_ (ST3.out.next bel)
 have hJ4 := Kd.C_below hJ3 bel
 have hev4 := hev.below bel
 clear ST3 bel hev hJ3
 generalize W3.alloc (.cells #[.int .i64 most, .int .i64 steps] 31) = W4 at s4 ST4 hJ4 hev4 ⊢
 generalize W3.heap.size = T5 at s4 ⊢
 obtain ⟨x0, x1, x2, x3, x4, x5, x6⟩ := cells7 ST4.out.box
 go_wp2_with (fail)
 clear x0 x1 x2 x3 x4 x5 x6
 refine (show Calls _ _ _ _ _ from copy_any W4 A0 A1 A2 A3 A4 c0 c1 c2 c3 c4 g ST4.out.pg fb).mono ?_
 rintro e W5 ⟨D0, D1, D2, D3, D4, d0, d1, d2, d3, d4, rfl, hI5, bel⟩
 have ST5 := hid_ (ST4.out.next bel)
 have hJ5 := Kd.C_below hJ4 bel
 have hev5 := hev4.below bel
 have s5 := blk_next s4 bel
 clear ST4 bel hev4 s4 hJ4
 go_wp2_with (fail)
 refine (show Calls _ _ _ _ _ from stacks_u W5 D0 D1 D2 D3 D4 d0 d1 d2 d3 d4 g hI5 f).mono ?_
 rintro e W6 ⟨tv, ew, rfl, htv, hew, bel⟩
 have ST6 := hid_ (ST5.out.next bel)
 have hJ6 := Kd.C_below hJ5 bel
 have hev6 := hev5.below bel
 have s6 := blk_next s5 bel
 clear ST5 bel hev5 s5 hJ5 hI5
 obtain ⟨At, ct, rfl, hct, hCt⟩ := Kd.R_reads htv
 clear htv
 cases hr : auditP g with
 | error x =>
  obtain ⟨xi, xn⟩ := x
  have hxn := auditP_num g xi xn (by rw [hr]; rfl)
  rw [hr] at hev6 hew hct hCt
  have hmost : most = 0 := by rw [← HM.out, hr]; rfl
  have hsteps : steps = 0 := by rw [← HS.out, hr]; rfl
  subst hmost
  subst hsteps
  obtain ⟨F, rfl, hF⟩ : ∃ F, ev = .iface 95 (.pointer (some ⟨F, 0, none⟩)) ∧ W6.heap[F]? = some (.cells #[.int .i64 xn, .int .i64 xi, .string ⟨#[]⟩, .nilIface] 98 (0, 0)) := hev6
  obtain ⟨F2, rfl, hF2⟩ : ∃ F, ew = .iface 95 (.pointer (some ⟨F, 0, none⟩)) ∧ W6.heap[F]? = some (.cells #[.int .i64 xn, .int .i64 xi, .string ⟨#[]⟩, .nilIface] 98 (0, 0)) := hew
  rw [show (toldR (Except.error (xi, xn))).length = 0 from rfl]
  obtain ⟨x0, x1⟩ := cells2 s6
  clear hct hCt hr HM HS
  go_wp2_with (fail)
  clear x0 x1
  refine (show Calls _ _ _ _ _ from read_fault W6 F xn xi hxn hF).mono ?_
  rintro e W7 ⟨rfl, bel⟩
  have hG7 := blk_next hF2 bel
  have HB7 := hid_ (ST6.out.below.trans (bel.mono ST6.out.below.size))
  clear hF hF2 bel s6 ST6 hJ6
  go_wp2_with (fail)
  refine (show Calls _ _ _ _ _ from read_fault W7 F2 xn xi hxn hG7).mono ?_
  rintro e W8 ⟨rfl, bel⟩
  have HB8 := hid_ (HB7.out.trans (bel.mono HB7.out.size))
  clear HB7 bel hG7
  have e39 := eq39 W8
  go_wp2_with (fail)
  go_ret
  exact ⟨rfl, HB8.out⟩
 | ok x =>
  obtain ⟨told, m⟩ := x
  rw [hr] at hev6 hew hct hCt
  have hmost : most = m := by rw [← HM.out, hr]; rfl
  have hsteps : steps = (g.C.length : Int) := by rw [← HS.out, hr]; rfl
  subst hmost
  subst hsteps
  obtain rfl : ev = .nilIface := hev6
  obtain rfl : ew = .nilIface := hew
  rw [show toldR (Except.ok (told, most)) = told from rfl] at hct hCt ⊢
  obtain ⟨n0, n1, Z, hZ⟩ := runs_of (show auditF g.T.length g.N.length g.S.length g.M.length g.C g.dep g.loc = .ok (told, most) from hr)
  obtain ⟨p1, p2, p3, p4⟩ := audit_decl (show auditF g.T.length g.N.length g.S.length g.M.length g.C g.dep g.loc = .ok (told, most) from hr)
  obtain ⟨m1, m2, -, -⟩ := audit_wide (show auditF g.T.length g.N.length g.S.length g.M.length g.C g.dep g.loc = .ok (told, most) from hr) g.dep g.loc (Int.le_refl _) p4 p1 p2
  have htl : told.length = g.C.length := by rw [hZ.told, List.length_map, hZ.len]; rfl
  have HR : StR w W6 w.heap.size T5 A0 A1 A2 A3 A4 c0 c1 c2 c3 c4 g most At told Aj js := ⟨ST6.out.below, ST6.out.box, ST6.out.pg.C, s6, hCt, hJ6⟩
  have HST := hid_ HR
  have HZ := hid_ hZ
  clear HM HS hr hCt s6 ST6 hJ6 HR hZ
  have v1 : decide (g.dep < most) = false := by rw [decide_eq_false_iff_not]; omega
  have v2 : decide (most < 1) = false := by rw [decide_eq_false_iff_not]; omega
  have v3 : decide (g.loc < 0) = false := by rw [decide_eq_false_iff_not]; omega
  have v4 : decide (1024 < g.loc) = false := by rw [decide_eq_false_iff_not]; omega
  have v5 : decide ((32768 : Int) < g.C.length) = false := by rw [decide_eq_false_iff_not]; omega
  have v6 : decide (128 < g.dep) = false := by rw [decide_eq_false_iff_not]; omega
  obtain ⟨x0, x1, x2, x3, x4, x5, x6⟩ := cells7 HST.out.box
  obtain ⟨y0, y1⟩ := cells2 HST.out.shape
  rw [htl]
  go_upto_region 9 with (fail)
  clear v1 v2 v3 v4 v5 v6 y0 y1
  go_upto_region 10 with ((with_reducible refine gate_dst (N := 98) rfl ?_); refine Kd.R_make (Kd.int .i64) (w0 := W6) W6.heap.size 3 (N := 98) rfl rfl 23 (.tmp 97) (.tmp 97) rfl g.loc rfl rfl Try.underlying23 (.int .i64 0) 8 info3 rfl (by decide) (by omega) 0 (ok := fun _ => True) (okp := fun _ => False) rfl (fun _ h => h.elim) trivial p3 (by omega) (Below.refl _ _) (Nat.le_refl _) ?_; intro vl w1 hrl hb1 hg1 hvl; obtain ⟨AL, cL, rfl⟩ := Kd.R_slice hrl)
  clear x0 x1 x2 x3 x4 x5 x6 hg1 hvl
  have hbA := below_alloc (Below.refl w1.heap.size w1) (.cells #[.int .i64 0, .slice none 0 0, .slice AL (List.replicate g.loc.toNat (0 : Int)).length cL, .int .i64 0] 63)
  have hwy : Way (w1.alloc (.cells #[.int .i64 0, .slice none 0 0, .slice AL (List.replicate g.loc.toNat (0 : Int)).length cL, .int .i64 0] 63)) W6.heap.size w1.heap.size 0 [] (List.replicate g.loc.toNat 0) 0 :=
   ⟨_, _, heap_alloc_new w1 _, hb1.size, Kd.R_nil _ _ _ _ _, Kd.R_below hrl hbA, fun k hk => by simp [Value.ownBlock] at hk⟩
  have hbW := hb1.trans (hbA.mono hb1.size)
  rw [show (List.replicate g.loc.toNat (0 : Int)).length = g.loc.toNat by simp] at hwy hbW
  clear hrl hb1 hbA
  generalize w1.alloc (.cells #[.int .i64 0, .slice none 0 0, .slice AL g.loc.toNat cL, .int .i64 0] 63) = V at hwy hbW ⊢
  generalize w1.heap.size = G at hwy ⊢
  have hz0 : ∃ σ, Z[0]? = some σ ∧ σ.stk = [] ∧ LeL σ.loc (List.replicate g.loc.toNat 0) := by
   have h0 : 0 < Z.length := by rw [HZ.out.len]; exact n0
   refine ⟨Z[0], List.getElem?_eq_getElem h0, HZ.out.first Z[0] ?_⟩
   rw [List.head?_eq_getElem?, List.getElem?_eq_getElem h0]
  obtain ⟨σ0, hσ0, hσ1, hσ2⟩ := hz0
  have hcl : (g.C.length : Int) ≤ 32768 := by omega
  clear hct hcj
  go_wp2_with (fail)
  go_loopw [10, 11] (fun tk st wr => ∃ (j p t : Nat) (σ : St) (loc : List Int) (deep : Int), tk = .int .i64 t ∧ t ≤ j ∧ st = .int .i64 ((j : Int) + 1) ∧ j ≤ p ∧ p < g.C.length ∧ Z[p]? = some σ ∧ LeL σ.loc loc ∧ (∀ c ∈ σ.stk, c ≠ 0) ∧ Way wr W6.heap.size G p σ.stk loc deep ∧ deep ≤ most ∧ Below W6.heap.size W6 wr) (fun _ st _ => g.C.length + 1 - (intOf st).toNat)
  case atStart =>
   have hnz0 : ∀ c ∈ σ0.stk, c ≠ 0 := by
    rw [hσ1]
    intro c hc
    cases hc
   exact ⟨0, 0, 0, σ0, _, 0, rfl, Nat.le_refl _, rfl, Nat.le_refl _, n0, hσ0, hσ2, hnz0, by rw [hσ1]; exact hwy, by omega, hbW⟩
  case round =>
   clear hwy hbW hσ0 hσ1 hσ2
   obtain ⟨j, p, t, σ, loc, deep, rfl, ht, rfl, hjp, hpn, hσ, hle, hnz, hwy, hdp, hbw⟩ := hrel
   have hmeas : g.C.length + 1 - (intOf (.int .i64 ((j : Int) + 1 + 1))).toNat < g.C.length + 1 - (intOf (.int .i64 ((j : Int) + 1))).toNat := by simp [intOf]; omega
   have hsl : σ.stk.length ≤ 10000 := by
    have h1 := HZ.out.deep σ (List.mem_of_getElem? hσ)
    omega
   obtain ⟨Aw, cw, vw, hGw, hcw, hCw⟩ := hwy.cells
   have hXw := blk_next HST.out.box hbw
   have hTw := blk_next HST.out.shape hbw
   obtain ⟨x0, x1, x2, x3, x4, x5, x6⟩ := cells7 hXw
   obtain ⟨y0, y1⟩ := cells2 hTw
   obtain ⟨w0, w1, w2, w3⟩ := cells4 hGw
   have hCC := Kd.C_below HST.out.stacks hbw
   obtain ⟨ad, ha, Ar, cr, ce, hcr, hCr⟩ := told_at hCC p (by omega)
   have htp : told.getD p [] = σ.stk := by
    rw [HZ.out.told]
    simp only [List.getD_eq_getElem?_getD, List.getElem?_map, hσ]
    rfl
   rw [htp] at ce hcr hCr
   subst ha
   have hsz := hbw.size
   have hcall : ∀ W', Below wr.heap.size wr W' → Calls Try.prog 17 #[.slice Ar σ.stk.length cr, .slice Aw σ.stk.length cw] W' fun e w' => e = .returned (.bool true) ∧ Below wr.heap.size wr w' := fun W' hb =>
    (sameCells_any W' Ar Aw cr cw σ.stk (by omega) (Kd.C_below hCr hb) hcr (Kd.C_below hCw hb) hcw).mono (fun e w' h => ⟨h.1, hb.trans ((Drawn0.below h.2).mono hb.size)⟩)
   have dj : decide ((j : Int) + 1 ≤ (g.C.length : Int)) = true := by rw [decide_eq_true_eq]; omega
   have HCALL := hid_ hcall
   have HCE := hid_ ce
   clear hcall ce
   have HWY := hid_ hwy
   have HBW := hid_ hbw
   have HSIG := hid_ (And.intro hσ (And.intro hle (And.intro hnz hdp)))
   clear hwy hbw hσ hle hnz hdp hGw hcw hCw hXw hTw hCC hcr hCr htp
   go_upto_region 14 with (fail)
   refine runs_r14 (by kernel_rfl) w0 x4 HCE.out w1 hpn HCALL.out ?_
   intro _ _ _ _ _ _ _ _ _ _ _ _ _ _ _ _ _ _ _ _ _ _ _ _ _ _ _ _ _ V1 bel1
   clear x0 x1 x2 x3 x4 x5 x6 y0 y1 w0 w1 w2 w3 dj
   have hB6 := HBW.out.trans (bel1.mono HBW.out.size)
   have hW1 := HWY.out.below bel1
   clear HWY HBW HCE HCALL bel1
   obtain ⟨a4, ha4, k0, k1, k2, k3⟩ := at_T66 (Kd.C_below HST.out.code hB6) (p : Int) (by omega) (by omega)
   obtain ⟨x, hx⟩ : ∃ x, x = rd_T66 g.C (p : Int) := ⟨_, rfl⟩
   rw [← hx, Int.toNat_natCast] at k0 k1 k2 k3
   subst ha4
   obtain ⟨Aw, cw, vw, hGw, hcw, hCw⟩ := hW1.cells
   have HXV := hid_ (blk_next HST.out.box hB6)
   have HGV := hid_ hGw
   have HCV := hid_ (And.intro k0 (And.intro k1 (And.intro k2 k3)))
   have HW1 := hid_ hW1
   have HB6 := hid_ hB6
   have HX := hid_ hx
   clear hGw k0 k1 k2 k3 hW1 hB6 hx hcw hCw
   go_upto_region 16 with (fail)
   refine runs_r16 (n := 0) (by kernel_rfl) HXV.out HGV.out hpn (fun _ _ _ _ _ h => h) HCV.out.1 HCV.out.2.1 HCV.out.2.2.1 HCV.out.2.2.2 ?_
   intro _ _ _ _ _ _ _ _ b12 V2 hB2 hX12
   clear HCV
   have HGV2 := hid_ (blk_next HGV.out hB2)
   have HXV2 := hid_ (blk_next HXV.out hB2)
   have HW2 := hid_ (HW1.out.below hB2)
   have HB62 := hid_ (HB6.out.trans (hB2.mono HB6.out.size))
   have HX12 := hid_ hX12
   obtain ⟨q0, q1, q2, q3⟩ := cells4 hX12
   obtain ⟨z0, z1, z2, z3⟩ := cells4 HGV2.out
   obtain ⟨x0, x1, x2, x3, x4, x5, x6⟩ := cells7 HXV2.out
   clear hB2 hX12 HGV HXV HW1 HB6
   by_cases h36 : x.f0 = 36
   ·
    obtain ⟨hp1, hst⟩ := HZ.out.last HSIG.out.1 x HX.out h36
    have hp1' : p + 1 = g.C.length := hp1
    obtain ⟨Aw2, cw2, vw2, hGw2, hcw2, hCw2⟩ := HW2.out.cells
    rw [hst] at hGw2 hCw2
    obtain ⟨aw, haw, caw⟩ := Kd.at_int hCw2 0 (by decide) (by decide)
    subst haw
    have hTw := blk_next HST.out.shape HB62.out
    obtain ⟨y0, y1⟩ := cells2 hTw
    clear z0 z1 z2 z3
    have hGw3 : V2.heap[G]? = some (.cells #[.int .i64 p, .slice (some aw) 1 cw2, vw2, .int .i64 deep] 63 (0, 0)) := hGw2
    obtain ⟨z0, z1, z2, z3⟩ := cells4 hGw3
    have caw2 : V2.cell? aw = some (.int .i64 1) := by simpa [Addr.add, rd] using caw
    clear hGw3 caw
    have e36 : (x.f0 == 36) = true := by rw [h36]; rfl
    have en : IntKind.i64.wrap ((g.C.length : Int) - 1) = (p : Int) := by rw [show (g.C.length : Int) - 1 = (p : Int) by omega]; exact IntWalk.i64_in _ ⟨by omega, by omega⟩
    have dd : decide (deep ≤ most) = true := by rw [decide_eq_true_eq]; exact HSIG.out.2.2.2
    have HBE := hid_ (HST.out.below.trans (HB62.out.mono HST.out.below.size))
    clear h36 hp1 hp1' hst hTw hCw2 hcw2 hGw2 HXV2 HGV2 HW2 HB62 HX12
    go_upto_region 18 with (fail)
    refine runs_r18 (by kernel_rfl) z0 x4 z1 caw2 z3 y0 en dd ?_
    intro _ _ _ _ _ _ _ _ _ _ _ _ _ _ _ _ _ _ _ _ _ _ _ _ _ _ _ _ _ _ _ _ _ _ _ W' hW'2
    go_wp2_with (fail)
    go_ret
    exact ⟨rfl, HBE.out.trans (hW'2.mono HBE.out.size)⟩
   ·
    have q36 : (x.f0 == 36) = false := by rw [beq_eq_false_iff_ne]; exact h36
    obtain ⟨jb, hjb⟩ : ∃ b : Bool, b = (decide (x.f0 = 33) || decide (x.f0 = 34)) := ⟨_, rfl⟩
    have HJB := hid_ hjb
    have H36 := hid_ h36
    clear hjb h36
    go_upto_region 20 with (fail)
    refine runs_r20 (by kernel_rfl) q0 HJB.out ?_
    intro _ _ _ _ _ _ _
    clear HJB
    have et : IntKind.i64.wrap ((t : Int) + 1) = (t : Int) + 1 := IntWalk.i64_in _ ⟨by omega, by omega⟩
    have et2 : wrap64 ((t : Int) + 1) = (t : Int) + 1 := wrap_ _ (by omega) (by omega)
    go_upto_if 190 with (fail)
    dsimp only
    go_cut [10, 13] (fun s10 s13 wx => wx = V2 ∧ (∃ t2 : Nat, s10 = .int .i64 t2 ∧ t2 ≤ j + 1) ∧ ∃ jb2 : Bool, s13 = .bool jb2)
    case first =>
     cases jb with
     | false =>
      go_wp2_with (fail)
      go_meet
      exact ⟨rfl, ⟨t, rfl, Nat.le_succ_of_le ht⟩, false, rfl⟩
     | true =>
      have hJt := Kd.C_below HST.out.jumps HB62.out
      go_upto_region 21 with (fail)
      refine runs_r21 (by kernel_rfl) hJt ?_
      intro _ _ _ _ _ _ _ _ _ _ jv
      clear hJt
      go_wp2_with (fail)
      go_meet
      exact ⟨rfl, ⟨t + 1, by push_cast; rfl, Nat.succ_le_succ ht⟩, _, rfl⟩
    case rest =>
    obtain ⟨rfl, ⟨t2, rfl, ht2⟩, jb2, rfl⟩ := hcut
    obtain ⟨p2, σ2, loc2, s1, s2, s3, s4, s5, s6, s7, s8⟩ := HZ.out.step HSIG.out.1 loc HSIG.out.2.1 HSIG.out.2.2.1 x HX.out H36.out jb2
    have hll : loc.length ≤ 10000 := by
     have h1 : loc.length = g.loc.toNat := s7
     omega
    have hdeep2 := HZ.out.deep σ2 (List.mem_of_getElem? s3)
    have HS3 := hid_ (And.intro s3 (And.intro s4 s5))
    have s2' : p2 < g.C.length := s2
    clear et et2 q36 s3 s4 s5 s7 s8 s2
    go_wp2_with (fail)
    clear x0 x1 x2 x3 x4 x5 x6 q0 q1 q2 q3 z0 z1 z2 z3
    refine (show Calls _ _ _ _ _ from does_any wc W6.heap.size G p deep x jb2 σ.stk loc p2 σ2.stk loc2 _ _ _ _ _ _ _ HW2.out HB62.out.size hsl hll (by omega) (by omega) s6).mono ?_
    rintro e V3 ⟨rfl, ⟨d3, hw3, hd3⟩, hB3⟩
    have hd3m : d3 ≤ most := by
     have h1 := HSIG.out.2.2.2
     rcases hd3 with h | h <;> omega
    have hB63 := HB62.out.trans hB3
    have ej : IntKind.i64.wrap ((j : Int) + 1 + 1) = (j : Int) + 1 + 1 := IntWalk.i64_in _ ⟨by omega, by omega⟩
    have ej2 : wrap64 ((j : Int) + 1 + 1) = (j : Int) + 1 + 1 := wrap_ _ (by omega) (by omega)
    clear hd3 hB3 HXV2 HGV2 HW2 HB62 HX12 s6
    go_wp2_with (fail)
    go_roundw
    case rel => exact ⟨j + 1, p2, t2, σ2, loc2, d3, rfl, ht2, by push_cast; rfl, Nat.lt_of_le_of_lt hjp s1, s2', HS3.out.1, HS3.out.2.1, HS3.out.2.2, hw3, hd3m, hB63⟩
    case measure => exact hmeas
end Go.Proofs.Ytbnplhmmbnmagaa.D
namespace Go.Proofs.Ytbnplhmmbnmagaa.D
open Go.RowKit Go.Proofs.YtbnplhmmbnmagaaW.PrintWords Go.Proofs.YtbnplhmmbnmagaaW.PrintLast Go.Proofs.YtbnplhmmbnmagaaW.PrintMore Go.Proofs.Ytbnplhmmbnmagaa.All
set_option linter.unusedVariables false
noncomputable def berthlaw21_AuditRuns.f (T : List ByteArray) (N : List Int) (S : List (List ByteArray)) (M : List (List Int)) (C : List S66) (d l : Int) (js : List Bool) : Option Bool := @ite _ (FitsB ⟨T, N, S, M, C, d, l⟩) (Classical.propDecidable _) (some true) none
theorem berthlaw21_AuditRuns.calls (A0 : Option Addr) (c0 : Nat) (T : List ByteArray) (A1 : Option Addr) (c1 : Nat) (N : List Int) (A2 : Option Addr) (c2 : Nat) (S : List (List ByteArray)) (A3 : Option Addr) (c3 : Nat) (M : List (List Int)) (A4 : Option Addr) (c4 : Nat) (C : List S66) (d l : Int) (Aj : Option Addr) (cj : Nat) (js : List Bool) (r : Bool) (w : World)
 (hT : Kd.C Kd.string w A0 T.length T) (lT : T.length ≤ c0) (hN : Kd.C (Kd.int .i64) w A1 N.length N) (lN : N.length ≤ c1) (hS : Kd.C (Kd.slice 9 Kd.string) w A2 S.length S) (lS : S.length ≤ c2) (hM : Kd.C (Kd.slice 3 (Kd.int .i64)) w A3 M.length M) (lM : M.length ≤ c3) (hC : Kd.C k66 w A4 C.length C) (lC : C.length ≤ c4) (hJ : Kd.C Kd.bool w Aj js.length js) (lJ : js.length ≤ cj)
 (h : berthlaw21_AuditRuns.f T N S M C d l js = some r) :
 Calls Try.prog 5 #[.agg #[.slice A0 T.length c0, .slice A1 N.length c1, .slice A2 S.length c2, .slice A3 M.length c3, .slice A4 C.length c4, .int .i64 d, .int .i64 l], .slice Aj js.length cj] w fun e w' => e = .returned (.bool r) ∧ Below w.heap.size w w' := by
 unfold berthlaw21_AuditRuns.f at h
 split at h
 ·
  next f =>
  obtain rfl := Option.some.inj h
  exact runs_any w A0 A1 A2 A3 A4 c0 c1 c2 c3 c4 ⟨T, N, S, M, C, d, l⟩ ⟨hT, hN, hS, hM, hC, lT, lN, lS, lM, lC⟩ f Aj cj js hJ lJ
 ·
  cases h
end Go.Proofs.Ytbnplhmmbnmagaa.D
