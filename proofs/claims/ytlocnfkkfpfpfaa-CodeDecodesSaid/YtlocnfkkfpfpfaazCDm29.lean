/- IsFault, fixed: their walks; the contracts of Encode, Decode, Same, small, Copy, SameBytes over values that read as a program, or as bytes. -/
import Derived.Test.YtlocnfkkfpfpfaazCDm26
import Derived.Test.YtlocnfkkfpfpfaazCDm28
namespace Go.Proofs.Ytlocnfkkfpfpfaa.D
open Go.RowKit Go.Proofs.YtlocnfkkfpfpfaaW.PrintWords Go.Proofs.YtlocnfkkfpfpfaaW.PrintLast Go.Proofs.YtlocnfkkfpfpfaaW.PrintMore Go.Proofs.Ytlocnfkkfpfpfaa.Six
set_option linter.unusedSimpArgs false
set_option linter.unusedVariables false
set_option maxHeartbeats 1000000 in
set_option maxRecDepth 100000 in
theorem isFault_none (w : World) (k q : Int) : Calls Try.prog 19 #[.nilIface, .int .i64 k, .int .i64 q] w fun e w' => e = .returned (.bool (decide (k = 0))) ∧ Below w.heap.size w w' := by
 go_enter Try.func19, Try.ntmps19
 go_wp2_with (fail)
 by_cases hk : k = 0
 ·
  go_wp2_with (fail)
  go_ret
  exact ⟨by simp [hk], Below.refl _ _⟩
 ·
  go_wp2_with (fail)
  go_ret
  exact ⟨by simp [hk], Below.refl _ _⟩
set_option maxHeartbeats 4000000 in
set_option maxRecDepth 100000 in
theorem isFault_some (w : World) (F : Nat) (c p k q : Int) (hF : w.heap[F]? = some (.cells #[.int .i64 c, .int .i64 p, .string ⟨#[]⟩, .nilIface] 56 (0, 0))) : Calls Try.prog 19 #[.iface 53 (.pointer (some ⟨F, 0, none⟩)), .int .i64 k, .int .i64 q] w fun e w' => e = .returned (.bool (decide (k ≠ 0 ∧ c = k ∧ p = q))) ∧ Below w.heap.size w w' := by
 have q0 : w.cell? ⟨F, 0, none⟩ = some (.int .i64 c) := by simp [World.cell?, hF]
 have q1 : w.cell? ⟨F, 1, none⟩ = some (.int .i64 p) := by simp [World.cell?, hF]
 have q2 : w.cell? ⟨F, 2, none⟩ = some (.string ⟨#[]⟩) := by simp [World.cell?, hF]
 have q3 : w.cell? ⟨F, 3, none⟩ = some .nilIface := by simp [World.cell?, hF]
 have hta : ∀ w, (Instr.typeAssert (.iface 53 (.pointer (some ⟨F, 0, none⟩))) 47 53 true).run Try.prog w = .ok (.tuple #[.pointer (some ⟨F, 0, none⟩), .bool true]) w := fun w => by
  simp [Instr.typeAssert, go_sem, run_underlying Try.underlying53]
 by_cases hk : k = 0
 ·
  subst hk
  go_enter Try.func19, Try.ntmps19
  go_wp2_with (fail)
  go_ret
  exact ⟨by simp, Below.refl _ _⟩
 ·
  have hk2 : (k == 0) = false := by simp [hk]
  by_cases hc : c = k
  ·
   subst hc
   by_cases hp : p = q
   ·
    subst hp
    go_enter Try.func19, Try.ntmps19
    go_wp2_with (fail)
    go_ret
    exact ⟨by simp [hk], Below.refl _ _⟩
   ·
    have hp2 : (p == q) = false := by simp [hp]
    go_enter Try.func19, Try.ntmps19
    go_wp2_with (fail)
    go_ret
    exact ⟨by simp [hp], Below.refl _ _⟩
  ·
   have hc2 : (c == k) = false := by simp [hc]
   go_enter Try.func19, Try.ntmps19
   go_wp2_with (fail)
   go_ret
   exact ⟨by simp [hc], Below.refl _ _⟩
theorem cntF_bytes : ∀ f n, Bytes (cntF f n)
  | 0, n, x, hx => by
    unfold cntF at hx
    have := List.mem_singleton.1 hx
    omega
  | f + 1, n, x, hx => by
    unfold cntF at hx
    split at hx
    · rcases List.mem_cons.1 hx with rfl | hx
      · omega
      · exact cntF_bytes f _ x hx
    · have := List.mem_singleton.1 hx
      omega
theorem bytes_app {a b : List Int} (ha : Bytes a) (hb : Bytes b) : Bytes (a ++ b) := fun x hx => (List.mem_append.1 hx).elim (ha x) (hb x)
theorem bytes_flat {α : Type} (put : α → List Int) (l : List α) (h : ∀ x, Bytes (put x)) : Bytes (encList put l) := by
  unfold encList
  refine bytes_app (cntF_bytes _ _) (fun x hx => ?_)
  obtain ⟨y, hy, hxy⟩ := List.mem_flatten.1 hx
  obtain ⟨z, _, rfl⟩ := List.mem_map.1 hy
  exact h z x hxy
theorem bytesOf_bytes (s : ByteArray) : Bytes (bytesOf s) := by
  intro x hx
  unfold bytesOf at hx
  obtain ⟨b, _, rfl⟩ := List.mem_map.1 hx
  have := b.toNat_lt
  omega
theorem encText_bytes (s : ByteArray) : Bytes (encText s) := bytes_app (cntF_bytes _ _) (bytesOf_bytes s)
theorem encP_bytes (g : Pg) : Bytes (encP g) := by
 unfold encP
 refine bytes_app (bytes_app (bytes_app (bytes_app (bytes_app (bytes_app (bytes_app ?_ (cntF_bytes _ _)) (cntF_bytes _ _)) (bytes_flat _ _ encText_bytes)) (bytes_flat _ _ (fun n => cntF_bytes _ _))) (bytes_flat _ _ (fun y => bytes_flat _ y encText_bytes))) (bytes_flat _ _ (fun y => bytes_flat _ y (fun n => cntF_bytes _ _)))) (bytes_flat _ _ (fun x => ?_))
 ·
  intro x hx
  simp only [List.mem_cons, List.not_mem_nil, or_false] at hx
  omega
 ·
  unfold encInstr
  refine bytes_app (bytes_app (bytes_app (fun y hy => by have := List.mem_singleton.1 hy; omega) ?_) ?_) ?_ <;> (split; exact cntF_bytes _ _; exact fun y hy => by cases hy)
theorem encP_len (g : Pg) (h : formedB g = true) : (encP g).length ≤ 700000000 := by
  obtain ⟨F1, F2, F3, F4, F5, F6, F7, F8, F9⟩ := formed_form h
  unfold encP
  have a1 := encCount_len g.dep
  have a2 := encCount_len g.loc
  have a3 := encList_len encText 137 g.T (fun s hs => encText_len s (F5 s hs))
  have a4 := encList_len encNum 10 g.N (fun n _ => encCount_len _)
  have a5 := encList_len (encList encText) 137010 g.S (fun y hy => by have := encList_len encText 137 y (fun s hs => encText_len s ((F7 y hy).2 s hs)); have := (F7 y hy).1; omega)
  have a6 := encList_len (encList encNum) 10010 g.M (fun y hy => by have := encList_len encNum 10 y (fun n _ => encCount_len _); have := (F8 y hy).1; omega)
  have a7 := encList_len encInstr 31 g.C (fun x _ => encInstr_len x)
  simp only [List.length_append, List.length_cons, List.length_nil]
  omega
theorem encP_good (g : Pg) (h : formedB g = true) : Good (encP g) := ⟨encP_bytes g, by have := encP_len g h; omega⟩
theorem formed_fits (g : Pg) (h : formedB g = true) : Fits g := by
  obtain ⟨F1, F2, F3, F4, F5, F6, F7, F8, F9⟩ := formed_form h
  exact ⟨by omega, by omega, by omega, by omega, by omega, fun x hx => by have := (F7 x hx).1; omega, fun x hx => by have := (F8 x hx).1; omega⟩
theorem strOfNums_inj {a b : List Int} (ha : Bytes a) (hb : Bytes b) : ((strOfNums a).toList == (strOfNums b).toList) = true ↔ a = b := by
 rw [beq_iff_eq]
 constructor
 ·
  intro h
  have := str_eq h
  rw [← bytes_str a ha, ← bytes_str b hb, this]
 ·
  intro h
  rw [h]
theorem IsPg.read {base : Nat} {g : Pg} {v : Value} {w : World} (h : IsPg base g v w) : ∃ A0 A1 A2 A3 A4 c0 c1 c2 c3 c4, v = valPg A0 A1 A2 A3 A4 c0 c1 c2 c3 c4 g ∧ InPg w A0 A1 A2 A3 A4 c0 c1 c2 c3 c4 g := by
  obtain ⟨vT, vN, vS, vM, vC, rfl, hT, hN, hS, hM, hC⟩ := h
  obtain ⟨A0, c0, rfl, k0, r0⟩ := Kd.R_reads hT
  obtain ⟨A1, c1, rfl, k1, r1⟩ := Kd.R_reads hN
  obtain ⟨A2, c2, rfl, k2, r2⟩ := Kd.R_reads hS
  obtain ⟨A3, c3, rfl, k3, r3⟩ := Kd.R_reads hM
  obtain ⟨A4, c4, rfl, k4, r4⟩ := Kd.R_reads hC
  exact ⟨A0, A1, A2, A3, A4, c0, c1, c2, c3, c4, rfl, r0, r1, r2, r3, r4, k0, k1, k2, k3, k4⟩
section
variable (w : World) (A0 A1 A2 A3 A4 : Option Addr) (c0 c1 c2 c3 c4 : Nat) (g : Pg) (hg : InPg w A0 A1 A2 A3 A4 c0 c1 c2 c3 c4 g)
theorem same_any (B0 B1 B2 B3 B4 : Option Addr) (e0 e1 e2 e3 e4 : Nat) (h : Pg) (hh : InPg w B0 B1 B2 B3 B4 e0 e1 e2 e3 e4 h) (hg : InPg w A0 A1 A2 A3 A4 c0 c1 c2 c3 c4 g) (fg : Fits g) (fh : Fits h) :
 Calls Try.prog 18 #[valPg A0 A1 A2 A3 A4 c0 c1 c2 c3 c4 g, valPg B0 B1 B2 B3 B4 e0 e1 e2 e3 e4 h] w fun e w' => (∃ r : Bool, e = .returned (.bool r) ∧ (r = true ↔ g = h)) ∧ Below w.heap.size w w' := by
 obtain ⟨k, r, h1, h2⟩ := same_f g h fg fh
 refine (berthref20_Same.calls k A0 c0 g.T A1 c1 g.N A2 c2 g.S A3 c3 g.M A4 c4 g.C g.dep g.loc B0 e0 h.T B1 e1 h.N B2 e2 h.S B3 e3 h.M B4 e4 h.C h.dep h.loc r w hg.T hg.lT hg.N hg.lN hg.S hg.lS hg.M hg.lM hg.C hg.lC hh.T hh.lT hh.N hh.lN hh.S hh.lS hh.M hh.lM hh.C hh.lC h1).mono ?_
 rintro e w' ⟨rfl, hb⟩
 exact ⟨⟨r, rfl, h2⟩, hb⟩
end
theorem sameBytes_any (w : World) (A B : Option Addr) (c d : Nat) (a b : List Int) (ha : Kd.C (Kd.int .u8) w A a.length a) (hc : a.length ≤ c) (hb : Kd.C (Kd.int .u8) w B b.length b) (hd : b.length ≤ d) (ba : Bytes a) (bb : Bytes b) :
 Calls Try.prog 15 #[.slice A a.length c, .slice B b.length d] w fun e w' => (∃ r : Bool, e = .returned (.bool r) ∧ (r = true ↔ a = b)) ∧ Below w.heap.size w w' := by
 refine (berthlaw20_SameBytes.calls A c a B d b _ w ha hc hb hd rfl).mono ?_
 rintro e w' ⟨rfl, hb⟩
 exact ⟨⟨_, rfl, strOfNums_inj ba bb⟩, hb.below⟩
end Go.Proofs.Ytlocnfkkfpfpfaa.D
