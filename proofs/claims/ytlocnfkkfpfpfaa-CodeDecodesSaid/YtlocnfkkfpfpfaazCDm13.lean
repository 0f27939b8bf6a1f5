/- Encode: what it writes, plain; the printed functions write it. -/
import Derived.Test.YtlocnfkkfpfpfaazCDm11
import Derived.Test.YtlocnfkkfpfpfaazCDm12
namespace Go.Proofs.Ytlocnfkkfpfpfaa.D
open Go.RowKit Go.Proofs.YtlocnfkkfpfpfaaW.PrintWords Go.Proofs.YtlocnfkkfpfpfaaW.PrintLast Go.Proofs.YtlocnfkkfpfpfaaW.PrintMore Go.Proofs.Ytlocnfkkfpfpfaa.Six
set_option linter.unusedSimpArgs false
set_option linter.unusedVariables false
def cntF : Nat → Int → List Int
  | 0, n => [n % 256]
  | f + 1, n => if 128 ≤ n then (n % 128 + 128) :: cntF f (n / 128) else [n % 256]
def encCount (n : Int) : List Int := cntF 9 n
def encText (s : ByteArray) : List Int := encCount s.size ++ bytesOf s
def encNum (n : Int) : List Int := encCount (if n < 0 then -2 * n - 1 else 2 * n)
def encList {α : Type} (put : α → List Int) (l : List α) : List Int := encCount l.length ++ (l.map put).flatten
def encInstr (x : S74) : List Int := [x.f0 % 256] ++ (if (usesV x.f0).1 = true then encCount x.f1 else []) ++ (if (usesV x.f0).2.1 = true then encCount x.f2 else []) ++ (if (usesV x.f0).2.2 = true then encCount x.f3 else [])
def encP (g : Pg) : List Int := [66, 82, 84, 1] ++ encCount g.dep ++ encCount g.loc ++ encList encText g.T ++ encList encNum g.N ++ encList (encList encText) g.S ++ encList (encList encNum) g.M ++ encList encInstr g.C
theorem cntF_len : ∀ f n, (cntF f n).length ≤ f + 1
  | 0, n => by simp [cntF]
  | f + 1, n => by
    unfold cntF
    split
    · have := cntF_len f (n / 128)
      simp only [List.length_cons]
      omega
    · simp
theorem encCount_len (n : Int) : (encCount n).length ≤ 10 := cntF_len 9 n
set_option maxRecDepth 10000 in
theorem or128 (n : Int) (h : 0 ≤ n) : Go.bits .or .u8 (n % 256) 128 = n % 128 + 128 := by
  rw [u8_or (n % 256) 128 (by omega) (by omega) (by omega) (by omega)]
  have hd : ∀ y : _root_.Fin 256, (y.val ||| 128) = y.val % 128 + 128 := by decide
  have h2 := hd ⟨(n % 256).toNat, by omega⟩
  have h3 : ((n % 256).toNat ||| (128 : Int).toNat) = (n % 256).toNat % 128 + 128 := h2
  rw [h3]
  omega
theorem putCount_l : ∀ (f k : Nat) (l : List Int) (n : Int), 0 ≤ n → n < 128 ^ (f + 1) → f < k → l.length + f + 1 ≤ 140737488355328 → code_putCount.l0 k l n = some (l ++ cntF f n)
 | 0, k, l, n, h0, h1, hk, hl => by
  obtain ⟨k, rfl⟩ : ∃ m, k = m + 1 := ⟨k - 1, by omega⟩
  unfold code_putCount.l0 cntF
  have : n < 128 := h1
  rw [if_neg (by omega), if_pos (by omega)]
 | f + 1, k, l, n, h0, h1, hk, hl => by
  obtain ⟨k, rfl⟩ : ∃ m, k = m + 1 := ⟨k - 1, by omega⟩
  unfold code_putCount.l0 cntF
  by_cases h : 128 ≤ n
  ·
   rw [if_pos (by omega), if_pos (by omega), if_pos h, or128 n h0]
   have h3 : n / 128 < 128 ^ (f + 1) := by
    rw [Int.pow_succ] at h1
    exact Int.ediv_lt_of_lt_mul (by omega) h1
   rw [putCount_l f k _ (n / 128) (by omega) h3 (by omega) (by simp only [List.length_append, List.length_cons, List.length_nil]; omega)]
   simp
  ·
   rw [if_neg (by omega), if_pos (by omega), if_neg h]
theorem putCount_f (k : Nat) (l : List Int) (n : Int) (h0 : 0 ≤ n) (h1 : n ≤ 18446744073709551615) (hk : 10 ≤ k) (hl : l.length + 10 ≤ 140737488355328) : code_putCount.f k l n = some (l ++ encCount n) := by
  unfold code_putCount.f encCount
  exact putCount_l 9 k l n h0 (by have : (128 : Int) ^ 10 = 1180591620717411303424 := by decide
                                  omega) (by omega) (by omega)
theorem putText_f (k : Nat) (l : List Int) (s : ByteArray) (hs : s.size ≤ 127) (hk : 10 ≤ k) (hl : l.length + 138 ≤ 140737488355328) : code_putText.f k l s = some (l ++ encText s) := by
  unfold code_putText.f encText
  have hw : IntKind.u64.wrap ((s.size : Int)) = s.size := IntWalk.u64_in _ ⟨by omega, by omega⟩
  have hc := encCount_len s.size
  rw [hw, putCount_f k l _ (by omega) (by omega) hk (by omega), Option.bind_some, if_pos (by simp only [List.length_append]; omega), List.append_assoc]
theorem putNum_f (k : Nat) (l : List Int) (n : Int) (h1 : -1000000000000000000 ≤ n) (h2 : n ≤ 1000000000000000000) (hk : 10 ≤ k) (hl : l.length + 10 ≤ 140737488355328) : code_putNum.f k l n = some (l ++ encNum n) := by
 unfold code_putNum.f encNum
 by_cases h : n < 0
 ·
  rw [if_pos h, if_pos h, wrap_ (-2 * n) (by omega) (by omega), wrap_ (-2 * n - 1) (by omega) (by omega), IntWalk.u64_in _ ⟨by omega, by omega⟩, putCount_f k l _ (by omega) (by omega) hk hl]
  rfl
 ·
  rw [if_neg h, if_neg h, wrap_ (2 * n) (by omega) (by omega), IntWalk.u64_in _ ⟨by omega, by omega⟩, putCount_f k l _ (by omega) (by omega) hk hl]
  rfl
theorem encList_len {α : Type} (put : α → List Int) (B : Nat) (l : List α) (h : ∀ x ∈ l, (put x).length ≤ B) : (encList put l).length ≤ 10 + l.length * B := by
  unfold encList
  have h0 := encCount_len l.length
  have : ((l.map put).flatten).length ≤ l.length * B := by
    clear h0
    induction l with
    | nil => simp
    | cons a l ih =>
      have h1 := ih (fun x hx => h x (List.mem_cons_of_mem _ hx))
      have h2 := h a List.mem_cons_self
      simp only [List.map_cons, List.flatten_cons, List.length_append, List.length_cons, Nat.add_mul, Nat.one_mul]
      omega
  rw [List.length_append]
  omega
theorem encText_len (s : ByteArray) (h : s.size ≤ 127) : (encText s).length ≤ 137 := by
  unfold encText
  have := encCount_len s.size
  rw [List.length_append, bytesOf_length]
  omega
theorem code_putList_string_25_l (l : List ByteArray) (hl : l.length ≤ 140737488351232) (hc : ∀ s ∈ l, s.size ≤ 127) : ∀ (k i : Nat) (x : List Int), l.length - i + 11 < k → i ≤ l.length → x.length + (l.length - i) * 138 ≤ 140737488355000 → code_putList_string_25.l0 k x l (l.length : Int) i = some (x ++ ((l.drop i).map encText).flatten)
 | 0, i, x, h, _, _ => by omega
 | k + 1, i, x, hk, hi, hb => by
  unfold code_putList_string_25.l0
  by_cases hlt : i < l.length
  ·
   have e0 : rdOf ByteArray.empty l (i : Int) = l[i] := by simp [rdOf, hlt]
   have ew : wrap64 ((i : Int) + 1) = ((i + 1 : Nat) : Int) := by rw [wrap_ _ (by omega) (by omega)]; omega
   have hmem : l[i] ∈ l := List.getElem_mem hlt
   have hd : (l.length - i) * 138 = 138 + (l.length - (i + 1)) * 138 := by
    rw [show l.length - i = (l.length - (i + 1)) + 1 by omega, Nat.add_mul, Nat.one_mul, Nat.add_comm]
   have hs := hc _ hmem
   have hel : (encText l[i]).length ≤ 137 := by
    unfold encText
    have := encCount_len l[i].size
    rw [List.length_append, bytesOf_length]
    omega
   have hput := putText_f k x l[i] hs (by omega) (by omega)
   rw [if_pos (by omega), if_pos (by omega), if_pos (by omega), e0, hput, Option.bind_some, ew, code_putList_string_25_l l hl hc k (i + 1) _ (by omega) (by omega) (by rw [List.length_append]; omega), List.drop_eq_getElem_cons hlt, List.map_cons, List.flatten_cons, List.append_assoc]
  ·
   rw [if_neg (by omega), List.drop_eq_nil_of_le (by omega)]
   simp
theorem code_putList_string_25_f' (l : List ByteArray) (hl : l.length ≤ 140737488351232) (hc : ∀ s ∈ l, s.size ≤ 127) (k : Nat) (x : List Int) (hk : l.length + 11 < k) (hk2 : 10 ≤ k) (hb : x.length + 10 + l.length * 138 ≤ 140737488355000) : code_putList_string_25.f k x l = some (x ++ encList encText l) := by
  have hc0 := encCount_len l.length
  have hL := code_putList_string_25_l l hl hc k 0 (x ++ encCount l.length) (by omega) (by omega) (by rw [List.length_append, Nat.sub_zero]; omega)
  rw [List.drop_zero] at hL
  unfold code_putList_string_25.f encList
  rw [IntWalk.u64_in _ ⟨by omega, by omega⟩, putCount_f k x _ (by omega) (by omega) hk2 (by omega), Option.bind_some, ← List.append_assoc]
  exact hL
theorem code_putList_int_27_l (l : List Int) (hl : l.length ≤ 140737488351232) (hc : ∀ n ∈ l, -1000000000000000000 ≤ n ∧ n ≤ 1000000000000000000) : ∀ (k i : Nat) (x : List Int), l.length - i + 11 < k → i ≤ l.length → x.length + (l.length - i) * 11 ≤ 140737488355000 → code_putList_int_27.l0 k x l (l.length : Int) i = some (x ++ ((l.drop i).map encNum).flatten)
 | 0, i, x, h, _, _ => by omega
 | k + 1, i, x, hk, hi, hb => by
  unfold code_putList_int_27.l0
  by_cases hlt : i < l.length
  ·
   have e0 : rd l (i : Int) = l[i] := by simp [rd, hlt]
   have ew : wrap64 ((i : Int) + 1) = ((i + 1 : Nat) : Int) := by rw [wrap_ _ (by omega) (by omega)]; omega
   have hmem : l[i] ∈ l := List.getElem_mem hlt
   have hd : (l.length - i) * 11 = 11 + (l.length - (i + 1)) * 11 := by
    rw [show l.length - i = (l.length - (i + 1)) + 1 by omega, Nat.add_mul, Nat.one_mul, Nat.add_comm]
   have hs := hc _ hmem
   have hel : (encNum l[i]).length ≤ 10 := encCount_len _
   have hput := putNum_f k x l[i] hs.1 hs.2 (by omega) (by omega)
   rw [if_pos (by omega), if_pos (by omega), if_pos (by omega), e0, hput, Option.bind_some, ew, code_putList_int_27_l l hl hc k (i + 1) _ (by omega) (by omega) (by rw [List.length_append]; omega), List.drop_eq_getElem_cons hlt, List.map_cons, List.flatten_cons, List.append_assoc]
  ·
   rw [if_neg (by omega), List.drop_eq_nil_of_le (by omega)]
   simp
theorem code_putList_int_27_f' (l : List Int) (hl : l.length ≤ 140737488351232) (hc : ∀ n ∈ l, -1000000000000000000 ≤ n ∧ n ≤ 1000000000000000000) (k : Nat) (x : List Int) (hk : l.length + 11 < k) (hk2 : 10 ≤ k) (hb : x.length + 10 + l.length * 11 ≤ 140737488355000) : code_putList_int_27.f k x l = some (x ++ encList encNum l) := by
  have hc0 := encCount_len l.length
  have hL := code_putList_int_27_l l hl hc k 0 (x ++ encCount l.length) (by omega) (by omega) (by rw [List.length_append, Nat.sub_zero]; omega)
  rw [List.drop_zero] at hL
  unfold code_putList_int_27.f encList
  rw [IntWalk.u64_in _ ⟨by omega, by omega⟩, putCount_f k x _ (by omega) (by omega) hk2 (by omega), Option.bind_some, ← List.append_assoc]
  exact hL
theorem code_putList_string_29_l (l : List (List ByteArray)) (hl : l.length ≤ 140737488351232) (hc : ∀ y ∈ l, y.length ≤ 1000 ∧ ∀ s ∈ y, s.size ≤ 127) : ∀ (k i : Nat) (x : List Int), l.length - i + 1020 < k → i ≤ l.length → x.length + (l.length - i) * 140000 ≤ 140737488355000 → code_putList_string_29.l0 k x l (l.length : Int) i = some (x ++ ((l.drop i).map (encList encText)).flatten)
 | 0, i, x, h, _, _ => by omega
 | k + 1, i, x, hk, hi, hb => by
  unfold code_putList_string_29.l0
  by_cases hlt : i < l.length
  ·
   have e0 : rd_L2 l (i : Int) = l[i] := by simp [rd_L2, hlt]
   have ew : wrap64 ((i : Int) + 1) = ((i + 1 : Nat) : Int) := by rw [wrap_ _ (by omega) (by omega)]; omega
   have hmem : l[i] ∈ l := List.getElem_mem hlt
   have hd : (l.length - i) * 140000 = 140000 + (l.length - (i + 1)) * 140000 := by
    rw [show l.length - i = (l.length - (i + 1)) + 1 by omega, Nat.add_mul, Nat.one_mul, Nat.add_comm]
   obtain ⟨hs1, hs2⟩ := hc _ hmem
   have hel : (encList encText l[i]).length ≤ 10 + l[i].length * 137 := encList_len encText 137 l[i] (fun s hs => encText_len s (hs2 s hs))
   have hput : code_Encode_1.f k x l[i] = some (x ++ encList encText l[i]) := by
    unfold code_Encode_1.f
    rw [code_putList_string_25_f' l[i] (by omega) hs2 k x (by omega) (by omega) (by omega)]
    rfl
   rw [if_pos (by omega), if_pos (by omega), if_pos (by omega), e0, hput, Option.bind_some, ew, code_putList_string_29_l l hl hc k (i + 1) _ (by omega) (by omega) (by rw [List.length_append]; omega), List.drop_eq_getElem_cons hlt, List.map_cons, List.flatten_cons, List.append_assoc]
  ·
   rw [if_neg (by omega), List.drop_eq_nil_of_le (by omega)]
   simp
theorem code_putList_string_29_f' (l : List (List ByteArray)) (hl : l.length ≤ 140737488351232) (hc : ∀ y ∈ l, y.length ≤ 1000 ∧ ∀ s ∈ y, s.size ≤ 127) (k : Nat) (x : List Int) (hk : l.length + 1020 < k) (hk2 : 10 ≤ k) (hb : x.length + 10 + l.length * 140000 ≤ 140737488355000) : code_putList_string_29.f k x l = some (x ++ encList (encList encText) l) := by
  have hc0 := encCount_len l.length
  have hL := code_putList_string_29_l l hl hc k 0 (x ++ encCount l.length) (by omega) (by omega) (by rw [List.length_append, Nat.sub_zero]; omega)
  rw [List.drop_zero] at hL
  unfold code_putList_string_29.f encList
  rw [IntWalk.u64_in _ ⟨by omega, by omega⟩, putCount_f k x _ (by omega) (by omega) hk2 (by omega), Option.bind_some, ← List.append_assoc]
  exact hL
theorem code_putList_int_31_l (l : List (List Int)) (hl : l.length ≤ 140737488351232) (hc : ∀ y ∈ l, y.length ≤ 1000 ∧ ∀ n ∈ y, -1000000000000000000 ≤ n ∧ n ≤ 1000000000000000000) : ∀ (k i : Nat) (x : List Int), l.length - i + 1020 < k → i ≤ l.length → x.length + (l.length - i) * 140000 ≤ 140737488355000 → code_putList_int_31.l0 k x l (l.length : Int) i = some (x ++ ((l.drop i).map (encList encNum)).flatten)
 | 0, i, x, h, _, _ => by omega
 | k + 1, i, x, hk, hi, hb => by
  unfold code_putList_int_31.l0
  by_cases hlt : i < l.length
  ·
   have e0 : rd_L3 l (i : Int) = l[i] := by simp [rd_L3, hlt]
   have ew : wrap64 ((i : Int) + 1) = ((i + 1 : Nat) : Int) := by rw [wrap_ _ (by omega) (by omega)]; omega
   have hmem : l[i] ∈ l := List.getElem_mem hlt
   have hd : (l.length - i) * 140000 = 140000 + (l.length - (i + 1)) * 140000 := by
    rw [show l.length - i = (l.length - (i + 1)) + 1 by omega, Nat.add_mul, Nat.one_mul, Nat.add_comm]
   obtain ⟨hs1, hs2⟩ := hc _ hmem
   have hel : (encList encNum l[i]).length ≤ 10 + l[i].length * 10 := encList_len encNum 10 l[i] (fun n _ => encCount_len _)
   have hput : code_Encode_2.f k x l[i] = some (x ++ encList encNum l[i]) := by
    unfold code_Encode_2.f
    rw [code_putList_int_27_f' l[i] (by omega) hs2 k x (by omega) (by omega) (by omega)]
    rfl
   rw [if_pos (by omega), if_pos (by omega), if_pos (by omega), e0, hput, Option.bind_some, ew, code_putList_int_31_l l hl hc k (i + 1) _ (by omega) (by omega) (by rw [List.length_append]; omega), List.drop_eq_getElem_cons hlt, List.map_cons, List.flatten_cons, List.append_assoc]
  ·
   rw [if_neg (by omega), List.drop_eq_nil_of_le (by omega)]
   simp
theorem code_putList_int_31_f' (l : List (List Int)) (hl : l.length ≤ 140737488351232) (hc : ∀ y ∈ l, y.length ≤ 1000 ∧ ∀ n ∈ y, -1000000000000000000 ≤ n ∧ n ≤ 1000000000000000000) (k : Nat) (x : List Int) (hk : l.length + 1020 < k) (hk2 : 10 ≤ k) (hb : x.length + 10 + l.length * 140000 ≤ 140737488355000) : code_putList_int_31.f k x l = some (x ++ encList (encList encNum) l) := by
  have hc0 := encCount_len l.length
  have hL := code_putList_int_31_l l hl hc k 0 (x ++ encCount l.length) (by omega) (by omega) (by rw [List.length_append, Nat.sub_zero]; omega)
  rw [List.drop_zero] at hL
  unfold code_putList_int_31.f encList
  rw [IntWalk.u64_in _ ⟨by omega, by omega⟩, putCount_f k x _ (by omega) (by omega) hk2 (by omega), Option.bind_some, ← List.append_assoc]
  exact hL
theorem stepV_f (k : Nat) (b : Bool) (l : List Int) (n : Int) (h0 : 0 ≤ n) (h1 : n ≤ 65535) (hk : 10 ≤ k) (hl : l.length + 10 ≤ 140737488355328) : stepV k b l n = some (l ++ if b = true then encCount n else []) := by
 unfold stepV
 by_cases hb : b = true
 ·
  rw [if_pos hb, if_pos hb, IntWalk.u64_in _ ⟨by omega, by omega⟩, putCount_f k l n h0 (by omega) hk hl]
 ·
  rw [if_neg hb, if_neg hb, List.append_nil]
theorem encInstr_len (x : S74) : (encInstr x).length ≤ 31 := by
  unfold encInstr
  have h1 := encCount_len x.f1
  have h2 := encCount_len x.f2
  have h3 := encCount_len x.f3
  simp only [List.length_append, List.length_cons, List.length_nil]
  split <;> split <;> split <;> (try simp only [List.length_nil]) <;> omega
theorem encode3_f (k : Nat) (l : List Int) (x : S74) (h1 : 0 ≤ x.f1 ∧ x.f1 ≤ 65535) (h2 : 0 ≤ x.f2 ∧ x.f2 ≤ 65535) (h3 : 0 ≤ x.f3 ∧ x.f3 ≤ 65535) (hk : 10 ≤ k) (hl : l.length + 40 ≤ 140737488355328) : code_Encode_3.f k l x.f0 x.f1 x.f2 x.f3 = some (l ++ encInstr x) := by
 unfold code_Encode_3.f encInstr
 have c1 := encCount_len x.f1
 have c2 := encCount_len x.f2
 have e1 : ∀ (b : Bool) (n : Int), (if b = true then encCount n else []).length ≤ 10 := fun b n => by
  have := encCount_len n
  split
  ·
   exact this
  ·
   simp
 have a1 := e1 (usesV x.f0).1 x.f1
 have a2 := e1 (usesV x.f0).2.1 x.f2
 rw [if_pos (by omega), stepV_f k _ _ _ h1.1 h1.2 hk (by simp only [List.length_append, List.length_cons, List.length_nil]; omega), Option.bind_some, stepV_f k _ _ _ h2.1 h2.2 hk (by simp only [List.length_append, List.length_cons, List.length_nil]; omega), Option.bind_some, stepV_f k _ _ _ h3.1 h3.2 hk (by simp only [List.length_append, List.length_cons, List.length_nil]; omega)]
 simp only [List.append_assoc]
theorem api_Instr_l (l : List S74) (hl : l.length ≤ 140737488351232) (hc : ∀ x ∈ l, (0 ≤ x.f1 ∧ x.f1 ≤ 65535) ∧ (0 ≤ x.f2 ∧ x.f2 ≤ 65535) ∧ (0 ≤ x.f3 ∧ x.f3 ≤ 65535)) : ∀ (k i : Nat) (x : List Int), l.length - i + 11 < k → i ≤ l.length → x.length + (l.length - i) * 41 ≤ 140737488355000 → api_Instr.l0 k x l (l.length : Int) i = some (x ++ ((l.drop i).map encInstr).flatten)
 | 0, i, x, h, _, _ => by omega
 | k + 1, i, x, hk, hi, hb => by
  unfold api_Instr.l0
  by_cases hlt : i < l.length
  ·
   have e0 : rd_T74 l (i : Int) = l[i] := by simp [rd_T74, hlt]
   have ew : wrap64 ((i : Int) + 1) = ((i + 1 : Nat) : Int) := by rw [wrap_ _ (by omega) (by omega)]; omega
   have hmem : l[i] ∈ l := List.getElem_mem hlt
   have hd : (l.length - i) * 41 = 41 + (l.length - (i + 1)) * 41 := by
    rw [show l.length - i = (l.length - (i + 1)) + 1 by omega, Nat.add_mul, Nat.one_mul, Nat.add_comm]
   obtain ⟨hs1, hs2, hs3⟩ := hc _ hmem
   have hel := encInstr_len l[i]
   have hput := encode3_f k x l[i] hs1 hs2 hs3 (by omega) (by omega)
   rw [if_pos (by omega), if_pos (by omega), if_pos (by omega), e0, hput, Option.bind_some, ew, api_Instr_l l hl hc k (i + 1) _ (by omega) (by omega) (by rw [List.length_append]; omega), List.drop_eq_getElem_cons hlt, List.map_cons, List.flatten_cons, List.append_assoc]
  ·
   rw [if_neg (by omega), List.drop_eq_nil_of_le (by omega)]
   simp
theorem api_Instr_f' (l : List S74) (hl : l.length ≤ 140737488351232) (hc : ∀ x ∈ l, (0 ≤ x.f1 ∧ x.f1 ≤ 65535) ∧ (0 ≤ x.f2 ∧ x.f2 ≤ 65535) ∧ (0 ≤ x.f3 ∧ x.f3 ≤ 65535)) (k : Nat) (x : List Int) (hk : l.length + 11 < k) (hk2 : 10 ≤ k) (hb : x.length + 10 + l.length * 41 ≤ 140737488355000) : api_Instr.f k x l = some (x ++ encList encInstr l) := by
  have hc0 := encCount_len l.length
  have hL := api_Instr_l l hl hc k 0 (x ++ encCount l.length) (by omega) (by omega) (by rw [List.length_append, Nat.sub_zero]; omega)
  rw [List.drop_zero] at hL
  unfold api_Instr.f encList
  rw [IntWalk.u64_in _ ⟨by omega, by omega⟩, putCount_f k x _ (by omega) (by omega) hk2 (by omega), Option.bind_some, ← List.append_assoc]
  exact hL
end Go.Proofs.Ytlocnfkkfpfpfaa.D
