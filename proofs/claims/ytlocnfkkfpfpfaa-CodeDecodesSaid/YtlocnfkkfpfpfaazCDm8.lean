/- The reader's walks: the two closures of program. -/
import Derived.Test.YtlocnfkkfpfpfaazCDm7
namespace Go.Proofs.Ytlocnfkkfpfpfaa.D
open Go.RowKit Go.Proofs.YtlocnfkkfpfpfaaW.PrintWords Go.Proofs.YtlocnfkkfpfpfaaW.PrintLast Go.Proofs.YtlocnfkkfpfpfaaW.PrintMore Go.Proofs.Ytlocnfkkfpfpfaa.Six
set_option linter.unusedSimpArgs false
set_option linter.unusedVariables false
def cmpS (a b : ByteArray) : Int := if Op.bytesLess a.toList b.toList = true then -1 else if Op.bytesLess b.toList a.toList = true then 1 else 0
def cmpI (a b : Int) : Int := if a < b then -1 else if a > b then 1 else 0
def cmpL {α : Type} (cmp : α → α → Int) : List α → List α → Int
  | [], [] => 0
  | [], _ :: _ => -1
  | _ :: _, [] => 1
  | a :: xs, b :: ys => if cmp a b = 0 then cmpL cmp xs ys else cmp a b
theorem cmpS_f (a b : ByteArray) : cmp_Compare_string.f a b = some (cmpS a b) := by
 unfold cmp_Compare_string.f cmp_isNaN_string.f cmpS
 simp only [Option.bind_some, bne_self_eq_false, Bool.false_eq_true, if_false]
 split
 ·
  rfl
 ·
  split <;> rfl
theorem cmpI_f (a b : Int) : cmp_Compare_int.f a b = some (cmpI a b) := by
 unfold cmp_Compare_int.f cmp_isNaN_int.f cmpI
 simp only [Option.bind_some, bne_self_eq_false, Bool.false_eq_true, if_false]
 split
 ·
  rfl
 ·
  split <;> rfl
theorem cmpS_any (a b : ByteArray) (w : World) : Calls Try.prog 54 #[.string a, .string b] w fun e w' => e = .returned (.int .i64 (cmpS a b)) ∧ Drawn0 w w' := cmp_Compare_string.calls a b _ w (cmpS_f a b)
theorem cmpI_any (a b : Int) (w : World) : Calls Try.prog 58 #[.int .i64 a, .int .i64 b] w fun e w' => e = .returned (.int .i64 (cmpI a b)) ∧ Drawn0 w w' := cmp_Compare_int.calls a b _ w (cmpI_f a b)
theorem cmpLS_l (x0 x1 : List ByteArray) (h : x0.length ≤ 9223372036854775807) : ∀ (k i : Nat), x0.length - i < k → i ≤ x0.length → i ≤ x1.length → slices_Compare_string_string.l0 k x0 x1 x0 (x0.length : Int) i = some (cmpL cmpS (x0.drop i) (x1.drop i))
 | 0, i, hk, _, _ => by omega
 | k + 1, i, hk, h0, h1 => by
  unfold slices_Compare_string_string.l0
  by_cases hlt : i < x0.length
  ·
   rw [if_pos (by omega), if_pos (by omega), if_pos (by omega), List.drop_eq_getElem_cons hlt]
   by_cases hlt1 : i < x1.length
   ·
    rw [if_neg (by omega), if_pos (by omega), List.drop_eq_getElem_cons hlt1, cmpS_f, Option.bind_some]
    have e0 : rdOf ByteArray.empty x0 (i : Int) = x0[i] := by simp [rdOf, hlt]
    have e1 : rdOf ByteArray.empty x1 (i : Int) = x1[i] := by simp [rdOf, hlt1]
    have ew : wrap64 ((i : Int) + 1) = ((i + 1 : Nat) : Int) := by rw [IntWalk.wrap64_in _ ⟨by omega, by omega⟩]; omega
    rw [e0, e1, ew]
    unfold cmpL
    by_cases hc : cmpS x0[i] x1[i] = 0
    ·
     rw [if_pos hc, if_pos hc]
     exact cmpLS_l x0 x1 h k (i + 1) (by omega) (by omega) (by omega)
    ·
     rw [if_neg hc, if_neg hc]
   ·
    rw [if_pos (by omega), List.drop_eq_nil_of_le (by omega : x1.length ≤ i)]
    rfl
  ·
   rw [if_neg (by omega), List.drop_eq_nil_of_le (by omega : x0.length ≤ i)]
   by_cases hlt1 : i < x1.length
   ·
    rw [if_pos (by omega), List.drop_eq_getElem_cons hlt1]
    rfl
   ·
    rw [if_neg (by omega), List.drop_eq_nil_of_le (by omega : x1.length ≤ i)]
    rfl
theorem cmpLI_l (x0 x1 : List Int) (h : x0.length ≤ 9223372036854775807) : ∀ (k i : Nat), x0.length - i < k → i ≤ x0.length → i ≤ x1.length → slices_Compare_int_int.l0 k x0 x1 x0 (x0.length : Int) i = some (cmpL cmpI (x0.drop i) (x1.drop i))
 | 0, i, hk, _, _ => by omega
 | k + 1, i, hk, h0, h1 => by
  unfold slices_Compare_int_int.l0
  by_cases hlt : i < x0.length
  ·
   rw [if_pos (by omega), if_pos (by omega), if_pos (by omega), List.drop_eq_getElem_cons hlt]
   by_cases hlt1 : i < x1.length
   ·
    rw [if_neg (by omega), if_pos (by omega), List.drop_eq_getElem_cons hlt1, cmpI_f, Option.bind_some]
    have e0 : rd x0 (i : Int) = x0[i] := by simp [rd, hlt]
    have e1 : rd x1 (i : Int) = x1[i] := by simp [rd, hlt1]
    have ew : wrap64 ((i : Int) + 1) = ((i + 1 : Nat) : Int) := by rw [IntWalk.wrap64_in _ ⟨by omega, by omega⟩]; omega
    rw [e0, e1, ew]
    unfold cmpL
    by_cases hc : cmpI x0[i] x1[i] = 0
    ·
     rw [if_pos hc, if_pos hc]
     exact cmpLI_l x0 x1 h k (i + 1) (by omega) (by omega) (by omega)
    ·
     rw [if_neg hc, if_neg hc]
   ·
    rw [if_pos (by omega), List.drop_eq_nil_of_le (by omega : x1.length ≤ i)]
    rfl
  ·
   rw [if_neg (by omega), List.drop_eq_nil_of_le (by omega : x0.length ≤ i)]
   by_cases hlt1 : i < x1.length
   ·
    rw [if_pos (by omega), List.drop_eq_getElem_cons hlt1]
    rfl
   ·
    rw [if_neg (by omega), List.drop_eq_nil_of_le (by omega : x1.length ≤ i)]
    rfl
theorem cmpLS_any (A0 : Option Addr) (c0 : Nat) (l0 : List ByteArray) (A1 : Option Addr) (c1 : Nat) (l1 : List ByteArray) (w : World) (h0 : Kd.string.C w A0 l0.length l0) (hc0 : l0.length ≤ c0) (h1 : Kd.string.C w A1 l1.length l1) (hc1 : l1.length ≤ c1) :
    Calls Try.prog 61 #[.slice A0 l0.length c0, .slice A1 l1.length c1] w fun e w' => e = .returned (.int .i64 (cmpL cmpS l0 l1)) ∧ Drawn0 w w' :=
  slices_Compare_string_string.calls (l0.length + 1) A0 c0 l0 A1 c1 l1 _ w h0 hc0 h1 hc1 (cmpLS_l l0 l1 h0.2.1 (l0.length + 1) 0 (by omega) (by omega) (by omega))
theorem cmpLI_any (A0 : Option Addr) (c0 : Nat) (l0 : List Int) (A1 : Option Addr) (c1 : Nat) (l1 : List Int) (w : World) (h0 : (Kd.int .i64).C w A0 l0.length l0) (hc0 : l0.length ≤ c0) (h1 : (Kd.int .i64).C w A1 l1.length l1) (hc1 : l1.length ≤ c1) :
    Calls Try.prog 63 #[.slice A0 l0.length c0, .slice A1 l1.length c1] w fun e w' => e = .returned (.int .i64 (cmpL cmpI l0 l1)) ∧ Drawn0 w w' :=
  slices_Compare_int_int.calls (l0.length + 1) A0 c0 l0 A1 c1 l1 _ w h0 hc0 h1 hc1 (cmpLI_l l0 l1 h0.2.1 (l0.length + 1) 0 (by omega) (by omega) (by omega))
theorem numF_ahead (bs : List Int) : Ahead bs (numF bs) := by
 intro p x q hp h
 unfold numF at h
 split at h
 ·
  simp at h
 ·
  rename_i n q' hc
  have := countF_ok hc
  simp only [Except.ok.injEq, Prod.mk.injEq] at h
  omega
theorem textF_ahead (bs : List Int) : Ahead bs (textF bs) := by
 intro p x q hp h
 unfold textF at h
 split at h
 ·
  simp at h
 ·
  rename_i n q' hc
  have := countF_ok hc
  split at h
  ·
   simp at h
  ·
   simp only [Except.ok.injEq, Prod.mk.injEq] at h
   omega
theorem listL_ahead {α : Type} (z : α) (bs : List Int) (one : Int → Except (Int × Int) (α × Int)) (cmp : α → α → Int) (ho : Ahead bs one) : ∀ (d : Nat) (q : Int) (acc x : List α) (q2 : Int), 0 ≤ q → q ≤ bs.length → listL z one cmp d q acc = .ok (x, q2) → q ≤ q2 ∧ q2 ≤ bs.length ∧ x.length = acc.length + d
  | 0, q, acc, x, q2, h0, hq, h => by
    unfold listL at h
    simp only [Except.ok.injEq, Prod.mk.injEq] at h
    obtain ⟨rfl, rfl⟩ := h
    exact ⟨by omega, hq, rfl⟩
  | d + 1, q, acc, x, q2, h0, hq, h => by
    unfold listL at h
    split at h
    · simp at h
    · rename_i y q3 hc
      have h3 := ho q y q3 h0 hc
      split at h
      · simp at h
      · have := listL_ahead z bs one cmp ho d q3 _ x q2 (by omega) h3.2 h
        simp only [List.length_append, List.length_cons, List.length_nil] at this
        omega
theorem listF_ok {α : Type} {z : α} {bs : List Int} {one : Int → Except (Int × Int) (α × Int)} {cmp : α → α → Int} (ho : Ahead bs one) {p lo hi : Int} (hp : 0 ≤ p) (hlo : 0 ≤ lo) {x : List α} {q : Int} (h : listF z one cmp bs p lo hi = .ok (x, q)) : p < q ∧ q ≤ bs.length ∧ lo ≤ x.length ∧ (x.length : Int) ≤ hi := by
 unfold listF at h
 split at h
 ·
  simp at h
 ·
  rename_i n q' hc
  have hcc := countF_ok hc
  have := listL_ahead z bs one cmp ho _ q' _ x q (by omega) hcc.2.2.2 h
  simp only [List.length_nil] at this
  omega
theorem listF_ahead {α : Type} (z : α) (bs : List Int) (one : Int → Except (Int × Int) (α × Int)) (cmp : α → α → Int) (ho : Ahead bs one) (lo hi : Int) (hlo : 0 ≤ lo) : Ahead bs (fun p => listF z one cmp bs p lo hi) := fun p x q hp h => ⟨(listF_ok ho hp hlo h).1, (listF_ok ho hp hlo h).2.1⟩
def textsF (bs : List Int) (p : Int) : Except (Int × Int) (List ByteArray × Int) := listF ByteArray.empty (textF bs) cmpS bs p 1 1000
def numsF (bs : List Int) (p : Int) : Except (Int × Int) (List Int × Int) := listF 0 (numF bs) cmpI bs p 1 1000
set_option maxHeartbeats 4000000 in
set_option maxRecDepth 100000 in
theorem prog1_any (w : World) (R : Nat) (A : Option Addr) (c : Nat) (bs : List Int) (p : Int) (h : Rd w w R A c bs p) (hp : 0 ≤ p) (hp2 : p ≤ bs.length) (G : Good bs) (hbc : bs.length ≤ c) (V : Addr) (hV : w.cell? V = some (.pointer (some ⟨R, 0, none⟩))) :
 Calls Try.prog 78 #[.pointer (some V)] w (Fin w R A c bs (textsF bs p) (fun x v w' => Kd.string.R 9 w' w.heap.size (fun _ => True) v x)) := by
 have hmf : ∀ (fn : Fn) (first cap : Array Value) (w : World), (Instr.makeFunc fn first cap).run Try.prog w = .ok (.func fn first cap) w := fun _ _ _ _ => rfl
 have HL := list73 w R A c bs p 1 1000 h hp hp2 G (by omega) (by omega) (by omega) (by omega) (textF bs) cmpS (textF_ahead bs) (fun wr q hr h0 h1 => text_any wr R A c bs q hr.self h0 h1 G hbc) (fun a b w => cmpS_any a b w)
 change Calls _ _ _ w (Fin w R A c bs (textsF bs p) _) at HL
 cases hc : textsF bs p with
 | error f =>
  rw [hc] at HL
  clear hc
  go_enter Try.func78, Try.ntmps78
  go_wp2_with ((with_reducible refine HL.mono ?_); intro e w' hf; obtain ⟨ps, rfl⟩ := hf.pan)
  exact ⟨rfl, hf.err rfl⟩
 | ok xq =>
  obtain ⟨x, q⟩ := xq
  rw [hc] at HL
  clear hc
  go_enter Try.func78, Try.ntmps78
  go_wp2_with ((with_reducible refine HL.mono ?_); rintro e w' ⟨v, rfl, hx, hr⟩)
  go_ret
  exact ⟨_, rfl, hx, hr⟩
set_option maxHeartbeats 4000000 in
set_option maxRecDepth 100000 in
theorem prog2_any (w : World) (R : Nat) (A : Option Addr) (c : Nat) (bs : List Int) (p : Int) (h : Rd w w R A c bs p) (hp : 0 ≤ p) (hp2 : p ≤ bs.length) (G : Good bs) (hbc : bs.length ≤ c) (V : Addr) (hV : w.cell? V = some (.pointer (some ⟨R, 0, none⟩))) :
 Calls Try.prog 80 #[.pointer (some V)] w (Fin w R A c bs (numsF bs p) (fun x v w' => (Kd.int .i64).R 3 w' w.heap.size (fun _ => True) v x)) := by
 have hmf : ∀ (fn : Fn) (first cap : Array Value) (w : World), (Instr.makeFunc fn first cap).run Try.prog w = .ok (.func fn first cap) w := fun _ _ _ _ => rfl
 have HL := list75 w R A c bs p 1 1000 h hp hp2 G (by omega) (by omega) (by omega) (by omega) (numF bs) cmpI (numF_ahead bs) (fun wr q hr h0 h1 => num_any wr R A c bs q hr.self h0 h1 G) (fun a b w => cmpI_any a b w)
 change Calls _ _ _ w (Fin w R A c bs (numsF bs p) _) at HL
 cases hc : numsF bs p with
 | error f =>
  rw [hc] at HL
  clear hc
  go_enter Try.func80, Try.ntmps80
  go_wp2_with ((with_reducible refine HL.mono ?_); intro e w' hf; obtain ⟨ps, rfl⟩ := hf.pan)
  exact ⟨rfl, hf.err rfl⟩
 | ok xq =>
  obtain ⟨x, q⟩ := xq
  rw [hc] at HL
  clear hc
  go_enter Try.func80, Try.ntmps80
  go_wp2_with ((with_reducible refine HL.mono ?_); rintro e w' ⟨v, rfl, hx, hr⟩)
  go_ret
  exact ⟨_, rfl, hx, hr⟩
end Go.Proofs.Ytlocnfkkfpfpfaa.D
