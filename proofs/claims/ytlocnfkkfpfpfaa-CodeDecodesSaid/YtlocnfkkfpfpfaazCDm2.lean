/- The reader's walks: text, num. -/
import Derived.Test.YtlocnfkkfpfpfaazCDm0
import Derived.Test.YtlocnfkkfpfpfaazCDm1
namespace Go.Proofs.Ytlocnfkkfpfpfaa.D
open Go.RowKit Go.Proofs.YtlocnfkkfpfpfaaW.PrintWords Go.Proofs.YtlocnfkkfpfpfaaW.PrintLast Go.Proofs.YtlocnfkkfpfpfaaW.PrintMore Go.Proofs.Ytlocnfkkfpfpfaa.Six
set_option linter.unusedSimpArgs false
set_option linter.unusedVariables false
theorem Rd.self {w wr : World} {R : Nat} {A : Option Addr} {c : Nat} {bs : List Int} {p : Int} (h : Rd w wr R A c bs p) : Rd wr wr R A c bs p :=
  ⟨Below.refl _ _, Kept.refl _ _, h.blk, fun W hk => h.row W (h.kept.then_ hk (fun _ h => .inl h))⟩
theorem Rd.trans {w wr w2 : World} {R : Nat} {A : Option Addr} {c : Nat} {bs : List Int} {p q : Int} (h : Rd w wr R A c bs p) (k : Rd wr w2 R A c bs q) : Rd w w2 R A c bs q :=
  ⟨h.below.trans k.below, h.kept.then_ k.kept (fun _ h => .inl h), k.blk, h.row⟩
theorem Fin.trans {α : Type} {w wr w2 : World} {R : Nat} {A : Option Addr} {c : Nat} {bs : List Int} {p : Int} {r : Except (Int × Int) (α × Int)} {V : α → Value → World → Prop} {e : Ending} (h : Rd w wr R A c bs p) (k : Fin wr R A c bs r V e w2) : Fin w R A c bs r V e w2 := by
 unfold Fin at k ⊢
 split at k
 ·
  obtain ⟨v, h1, h2, h3⟩ := k
  exact ⟨v, h1, h2, h.trans h3⟩
 ·
  obtain ⟨F, p, h1, h2, h3, h4⟩ := k
  exact ⟨F, p, h1, h2, h3, h.trans h4⟩
theorem Fin.err {α β : Type} {w w2 : World} {R : Nat} {A : Option Addr} {c : Nat} {bs : List Int} {f : Int × Int} {V : α → Value → World → Prop} {V2 : β → Value → World → Prop} {e : Ending} {r : Except (Int × Int) (β × Int)} (k : Fin w R A c bs (Except.error f : Except (Int × Int) (α × Int)) V e w2) (hr : r = .error f) : Fin w R A c bs r V2 e w2 := by
  subst hr
  exact k
theorem Fin.pan {α : Type} {w w2 : World} {R : Nat} {A : Option Addr} {c : Nat} {bs : List Int} {f : Int × Int} {V : α → Value → World → Prop} {e : Ending} (k : Fin w R A c bs (Except.error f : Except (Int × Int) (α × Int)) V e w2) : ∃ ps, e = .panicked ps := by
  obtain ⟨F, p, h, _⟩ := k
  exact ⟨_, h⟩
theorem countL_ok (bs : List Int) (frm lo hi : Int) : ∀ (f k : Nat) (q m x q2 : Int), countL bs frm lo hi f k q m = .ok (x, q2) → lo ≤ x ∧ x ≤ hi ∧ q < q2 ∧ q2 ≤ bs.length
  | 0, k, q, m, x, q2, h => by simp [countL] at h
  | f + 1, k, q, m, x, q2, h => by
    rw [countL_step bs frm lo hi f k q m _ _ rfl rfl] at h
    generalize m + bs.getD q.toNat 0 % 128 * 128 ^ k = y at h
    generalize bs.getD q.toNat 0 = z at h
    split at h
    · simp at h
    split at h
    · simp at h
    split at h
    · have := countL_ok bs frm lo hi f (k + 1) (q + 1) y x q2 h
      omega
    split at h
    · simp at h
    split at h
    · simp at h
    · simp only [Except.ok.injEq, Prod.mk.injEq] at h
      omega
theorem countF_ok {bs : List Int} {p lo hi x q : Int} (h : countF bs p lo hi = .ok (x, q)) : lo ≤ x ∧ x ≤ hi ∧ p < q ∧ q ≤ bs.length := countL_ok bs p lo hi 9 0 p 0 x q h
structure Good (bs : List Int) : Prop where
  byte : ∀ x ∈ bs, 0 ≤ x ∧ x ≤ 255
  len : bs.length ≤ 200000000000000
def numF (bs : List Int) (p : Int) : Except (Int × Int) (Int × Int) :=
  match countF bs p 0 2000000000000000000 with
  | .error f => .error f
  | .ok (n, q) => .ok (if n % 2 = 1 then -(n / 2) - 1 else n / 2, q)
set_option maxHeartbeats 4000000 in
set_option maxRecDepth 100000 in
theorem num_any (w : World) (R : Nat) (A : Option Addr) (c : Nat) (bs : List Int) (p : Int) (h : Rd w w R A c bs p) (hp : 0 ≤ p) (hp2 : p ≤ bs.length) (G : Good bs) :
 Calls Try.prog 76 #[.pointer (some ⟨R, 0, none⟩)] w (Fin w R A c bs (numF bs p) (fun x v _ => v = .int .i64 x)) := by
 have HC := count_any w R A c bs p 0 2000000000000000000 h hp hp2 G.byte G.len (by omega) (by omega)
 unfold numF
 cases hc : countF bs p 0 2000000000000000000 with
 | error f =>
  rw [hc] at HC
  clear hc
  go_enter Try.func76, Try.ntmps76
  go_wp2_with ((with_reducible refine HC.mono ?_); intro e w' hf; obtain ⟨ps, rfl⟩ := hf.pan)
  exact ⟨rfl, hf.err rfl⟩
 | ok xq =>
  obtain ⟨x, q⟩ := xq
  obtain ⟨x1, x2, x3, x4⟩ := countF_ok hc
  rw [hc] at HC
  clear hc
  by_cases hodd : x % 2 = 1
  ·
   have e1 : ((if x % 2 = 1 then -(x / 2) - 1 else x / 2, q) : Int × Int) = (-(x / 2) - 1, q) := by rw [if_pos hodd]
   dsimp only
   rw [e1]
   clear e1
   go_enter Try.func76, Try.ntmps76
   go_wp2_with ((with_reducible refine HC.mono ?_); rintro e w' ⟨v, rfl, rfl, hr⟩)
   go_ret
   exact ⟨_, rfl, rfl, hr⟩
  ·
   have e1 : ((if x % 2 = 1 then -(x / 2) - 1 else x / 2, q) : Int × Int) = (x / 2, q) := by rw [if_neg hodd]
   dsimp only
   rw [e1]
   clear e1
   go_enter Try.func76, Try.ntmps76
   go_wp2_with ((with_reducible refine HC.mono ?_); rintro e w' ⟨v, rfl, rfl, hr⟩)
   go_ret
   exact ⟨_, rfl, rfl, hr⟩
def textF (bs : List Int) (p : Int) : Except (Int × Int) (ByteArray × Int) :=
  match countF bs p 0 127 with
  | .error f => .error f
  | .ok (n, q) => if bs.length - q < n then .error (201, bs.length) else .ok (strOfNums ((bs.take (q + n).toNat).drop q.toNat), q + n)
theorem cut34 (A : Option Addr) (n c : Nat) (lo hi : Int) (h0 : 0 ≤ lo) (h1 : lo ≤ hi) (h2 : hi ≤ n) (hc : n ≤ c) :
    ∀ W : World, (Instr.slice 34 (.slice A n c) (some (.int .i64 lo)) (some (.int .i64 hi)) none).run Try.prog W = .ok (.slice (if c = lo.toNat then A else A.map (·.add lo.toNat)) (hi.toNat - lo.toNat) (c - lo.toNat)) W := by
  obtain ⟨i0, hi0, hzz⟩ := Option.map_eq_some_iff.1 info5
  simp only [Prod.mk.injEq] at hzz
  have := cut_mid 34 5 .i64 .i64 Try.underlying34 hi0 1 hzz.2.1 A n c lo hi h0 h1 h2 hc
  rwa [Nat.mul_one] at this
set_option maxHeartbeats 4000000 in
set_option maxRecDepth 100000 in
theorem text_any (w : World) (R : Nat) (A : Option Addr) (c : Nat) (bs : List Int) (p : Int) (h : Rd w w R A c bs p) (hp : 0 ≤ p) (hp2 : p ≤ bs.length) (G : Good bs) (hbc : bs.length ≤ c) :
 Calls Try.prog 74 #[.pointer (some ⟨R, 0, none⟩)] w (Fin w R A c bs (textF bs p) (fun x v _ => v = .string x)) := by
 have HC := count_any w R A c bs p 0 127 h hp hp2 G.byte G.len (by omega) (by omega)
 unfold textF
 cases hc : countF bs p 0 127 with
 | error f =>
  rw [hc] at HC
  clear hc
  go_enter Try.func74, Try.ntmps74
  go_wp2_with ((with_reducible refine HC.mono ?_); intro e w' hf; obtain ⟨ps, rfl⟩ := hf.pan)
  exact ⟨rfl, hf.err rfl⟩
 | ok xq =>
  obtain ⟨x, q⟩ := xq
  obtain ⟨x1, x2, x3, x4⟩ := countF_ok hc
  rw [hc] at HC
  clear hc
  have hlen := G.len
  by_cases hcut : bs.length - q < x
  ·
   have e1 : (if bs.length - q < x then .error (201, (bs.length : Int)) else .ok (strOfNums ((bs.take (q + x).toNat).drop q.toNat), q + x) : Except (Int × Int) (ByteArray × Int)) = .error (201, bs.length) := by rw [if_pos hcut]
   dsimp only
   rw [e1]
   clear e1
   go_enter Try.func74, Try.ntmps74
   go_wp2_with ((with_reducible refine HC.mono ?_); rintro e w' ⟨v, rfl, rfl, hr⟩; obtain ⟨c0, c1, z1⟩ := hr.cells)
   go_region
   go_wp2_with ((with_reducible refine (fail_any _ _ _).mono ?_); rintro e w2 ⟨rfl, rfl⟩)
   exact ⟨rfl, (Fin.fail hr rfl rfl).pdrew⟩
  ·
   have e1 : (if bs.length - q < x then .error (201, (bs.length : Int)) else .ok (strOfNums ((bs.take (q + x).toNat).drop q.toNat), q + x) : Except (Int × Int) (ByteArray × Int)) = .ok (strOfNums ((bs.take (q + x).toNat).drop q.toNat), q + x) := by rw [if_neg hcut]
   dsimp only
   rw [e1]
   clear e1
   have hsl := cut34 A bs.length c q (q + x) (by omega) (by omega) (by omega) hbc
   go_enter Try.func74, Try.ntmps74
   go_wp2_with ((with_reducible refine HC.mono ?_); rintro e w' ⟨v, rfl, rfl, hr⟩; obtain ⟨c0, c1, z1⟩ := hr.cells)
   go_region
   go_wp2_with (fail)
   have hr2 := hr.set (q + x)
   have hm := Kd.C_mid (lo := q.toNat) (hi := (q + x).toNat) (hr2.row _ hr2.kept) (by omega) (by omega) hbc
   have hln : ((bs.take (q + x).toNat).drop q.toNat).length = (q + x).toNat - q.toNat := by rw [List.length_drop, List.length_take]; omega
   rw [hln] at hm
   have hk1 : (Kd.int .u8).sz = 1 := rfl
   rw [hk1, Nat.mul_one] at hm
   generalize (if c = q.toNat then A else Option.map (fun x => x.add q.toNat) A) = A' at hsl hm
   have H1 := Kd.C_string (P := Try.prog) (c := c - q.toNat) Try.underlying34 Try.underlying5 Try.underlying9 (Kd.C_drew (Kd.C_drew hm))
   clear hm hln hk1
   go_region
   go_wp2_with (fail)
   go_ret
   exact ⟨_, rfl, rfl, hr2.drew.drew⟩
end Go.Proofs.Ytlocnfkkfpfpfaa.D
