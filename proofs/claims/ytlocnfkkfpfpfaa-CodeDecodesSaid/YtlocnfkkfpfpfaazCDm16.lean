/- The plain side: texts, numbers, instructions there and back. -/
import Derived.Test.YtlocnfkkfpfpfaazCDm15
namespace Go.Proofs.Ytlocnfkkfpfpfaa.D
open Go.RowKit Go.Proofs.YtlocnfkkfpfpfaaW.PrintWords Go.Proofs.YtlocnfkkfpfpfaaW.PrintLast Go.Proofs.YtlocnfkkfpfpfaaW.PrintMore Go.Proofs.Ytlocnfkkfpfpfaa.Six
set_option linter.unusedSimpArgs false
set_option linter.unusedVariables false
abbrev Bytes (bs : List Int) : Prop := ∀ x ∈ bs, 0 ≤ x ∧ x ≤ 255
structure Code1 {α : Type} (f : List Int → Int → Except (Int × Int) (α × Int)) (enc : α → List Int) (ok : α → Prop) : Prop where
  rt : ∀ bs p x, ok x → At bs p (enc x) → f bs p = .ok (x, p + (enc x).length)
  of : ∀ bs p x q, Bytes bs → 0 ≤ p → f bs p = .ok (x, q) → ok x ∧ At bs p (enc x) ∧ q = p + (enc x).length
  ext : Ext f
theorem countF_x (lo hi : Int) (bs more : List Int) (p : Int) (hp : 0 ≤ p) : countF bs p lo hi = .error (201, (bs.length : Int)) ∨ countF (bs ++ more) p lo hi = countF bs p lo hi := countF_ext lo hi bs more p hp
theorem bytes_str (l : List Int) (h : ∀ x ∈ l, 0 ≤ x ∧ x ≤ 255) : bytesOf (strOfNums l) = l := by
  unfold bytesOf strOfNums
  simp only [List.map_map]
  conv => rhs; rw [← List.map_id l]
  refine List.map_congr_left fun a ha => ?_
  have := h a ha
  simp
  omega
theorem str_bytes (s : ByteArray) : strOfNums (bytesOf s) = s := by
  unfold bytesOf strOfNums
  rw [List.map_map]
  have : (s.data.toList.map ((fun n : Int => UInt8.ofNat n.toNat) ∘ fun b : UInt8 => (b.toNat : Int))) = s.data.toList := by
    conv => rhs; rw [← List.map_id s.data.toList]
    refine List.map_congr_left fun a _ => ?_
    simp
  rw [this]
theorem mid_at {bs l : List Int} {q : Int} (h : At bs q l) : (bs.take (q + l.length).toNat).drop q.toNat = l := by
  obtain ⟨pre, post, rfl, rfl⟩ := h
  have e1 : ((pre.length : Int) + l.length).toNat = (pre ++ l).length := by rw [List.length_append]; omega
  rw [e1, List.take_left, Int.toNat_natCast, List.drop_left]
theorem at_mid {bs : List Int} {q n : Int} (h0 : 0 ≤ q) (hn : 0 ≤ n) (h1 : q + n ≤ bs.length) : At bs q ((bs.take (q + n).toNat).drop q.toNat) ∧ ((bs.take (q + n).toNat).drop q.toNat).length = n.toNat := by
  refine ⟨⟨bs.take q.toNat, bs.drop (q + n).toNat, ?_, by rw [List.length_take]; omega⟩, by rw [List.length_drop, List.length_take]; omega⟩
  have e : bs.take q.toNat = (bs.take (q + n).toNat).take q.toNat := by rw [List.take_take]; congr 1; omega
  rw [e, List.take_append_drop, List.take_append_drop]
theorem text_code : Code1 textF encText (fun s => s.size ≤ 127) := by
 refine ⟨fun bs p s hs hA => ?_, fun bs p s q hb hp h => ?_, fun bs more p hp => ?_⟩
 ·
  obtain ⟨h1, h2⟩ := hA.split
  have hl := h2.le
  rw [bytesOf_length] at hl
  unfold textF
  rw [countF_rt (by omega) (by omega) (by omega) (by omega) h1]
  dsimp only
  have hm := mid_at h2
  rw [bytesOf_length] at hm
  rw [if_neg (by omega), hm, str_bytes]
  unfold encText
  rw [List.length_append, bytesOf_length]
  congr 2
  omega
 ·
  unfold textF at h
  cases hc : countF bs p 0 127 with
  | error f => rw [hc] at h; simp at h
  | ok nq =>
   obtain ⟨n, q1⟩ := nq
   rw [hc] at h
   dsimp only at h
   obtain ⟨c0, c1, c2, c3, c4⟩ := countF_of hb hp hc
   split at h
   ·
    simp at h
   ·
    simp only [Except.ok.injEq, Prod.mk.injEq] at h
    obtain ⟨rfl, rfl⟩ := h
    obtain ⟨m1, m2⟩ := at_mid (bs := bs) (q := q1) (n := n) (by omega) c0 (by omega)
    have hbb : bytesOf (strOfNums ((bs.take (q1 + n).toNat).drop q1.toNat)) = (bs.take (q1 + n).toNat).drop q1.toNat := bytes_str _ (fun x hx => hb x (List.mem_of_mem_take (List.mem_of_mem_drop hx)))
    have hsz : (strOfNums ((bs.take (q1 + n).toNat).drop q1.toNat)).size = n.toNat := by rw [← bytesOf_length, hbb, m2]
    have en : ((strOfNums ((bs.take (q1 + n).toNat).drop q1.toNat)).size : Int) = n := by omega
    unfold encText
    rw [hbb, en]
    refine ⟨by omega, c3.join (by rw [← c4]; exact m1), ?_⟩
    rw [List.length_append, m2]
    omega
 ·
  unfold textF
  rcases countF_x 0 127 bs more p hp with h | h
  ·
   left; rw [h]
  ·
   rw [h]
   cases hc : countF bs p 0 127 with
   | error f => exact .inr rfl
   | ok nq =>
    obtain ⟨n, q1⟩ := nq
    have hq := countF_ok hc
    dsimp only
    by_cases hcut : bs.length - q1 < n
    ·
     left; rw [if_pos hcut]
    ·
     right
     rw [if_neg hcut, if_neg (by rw [List.length_append]; omega)]
     congr 4
     rw [List.take_append_of_le_length (by omega)]
theorem num_code : Code1 numF encNum (fun n => -1000000000000000000 ≤ n ∧ n ≤ 1000000000000000000) := by
 refine ⟨fun bs p n hn hA => ?_, fun bs p n q hb hp h => ?_, fun bs more p hp => ?_⟩
 ·
  unfold numF
  unfold encNum at hA ⊢
  by_cases h : n < 0
  ·
   rw [if_pos h] at hA ⊢
   rw [countF_rt (by omega) (by omega) (by omega) (by omega) hA]
   dsimp only
   rw [if_pos (by omega)]
   congr 2
   omega
  ·
   rw [if_neg h] at hA ⊢
   rw [countF_rt (by omega) (by omega) (by omega) (by omega) hA]
   dsimp only
   rw [if_neg (by omega)]
   congr 2
   omega
 ·
  unfold numF at h
  cases hc : countF bs p 0 2000000000000000000 with
  | error f => rw [hc] at h; simp at h
  | ok nq =>
   obtain ⟨m, q1⟩ := nq
   rw [hc] at h
   obtain ⟨c0, c1, c2, c3, c4⟩ := countF_of hb hp hc
   simp only [Except.ok.injEq, Prod.mk.injEq] at h
   obtain ⟨rfl, rfl⟩ := h
   unfold encNum
   by_cases ho : m % 2 = 1
   ·
    rw [if_pos ho, if_pos (by omega), show -2 * (-(m / 2) - 1) - 1 = m by omega]
    exact ⟨by omega, c3, c4⟩
   ·
    rw [if_neg ho, if_neg (by omega), show 2 * (m / 2) = m by omega]
    exact ⟨by omega, c3, c4⟩
 ·
  unfold numF
  rcases countF_x 0 2000000000000000000 bs more p hp with h | h
  ·
   left; rw [h]
  ·
   right; rw [h]
end Go.Proofs.Ytlocnfkkfpfpfaa.D
