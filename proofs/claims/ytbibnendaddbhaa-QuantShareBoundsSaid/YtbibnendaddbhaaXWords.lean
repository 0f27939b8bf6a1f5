/- Words beside the print's own: '<=', '>', '>=' of strings as one test; make([]T, 0, c). No Go text in sight. -/
import Derived.Test.YtbibnendaddbhaaWWords
import Derived.Test.YtbibnendaddbhaaWMore
import Derived.Laws.Strings
namespace Go.Proofs.YtbibnendaddbhaaX
theorem bl_total : ∀ x y : List UInt8, (Op.bytesLess x y || x == y) = !(Op.bytesLess y x)
  | [], [] => by simp [Op.bytesLess]
  | [], _ :: _ => by simp [Op.bytesLess]
  | _ :: _, [] => by simp [Op.bytesLess]
  | a :: x, b :: y => by
    have ih := bl_total x y
    by_cases h : a < b
    · have h1 : ¬ b < a := fun h' => by rw [UInt8.lt_iff_toNat_lt] at h h'; omega
      have h2 : (b == a) = false := by
        rw [beq_eq_false_iff_ne]; rintro rfl; rw [UInt8.lt_iff_toNat_lt] at h; omega
      simp [Op.bytesLess, h, h1, h2]
    · by_cases h' : b < a
      · have h2 : (a == b) = false := by
          rw [beq_eq_false_iff_ne]; rintro rfl; rw [UInt8.lt_iff_toNat_lt] at h'; omega
        simp [Op.bytesLess, h, h', h2]
      · have e : a = b := by
          apply UInt8.toNat_inj.1
          rw [UInt8.lt_iff_toNat_lt] at h h'
          omega
        subst e
        simp [Op.bytesLess, h]
        simpa using ih
theorem binOp_leq (t : TypeId) (a b : ByteArray) : binOp .leq t (.string a) (.string b) = pure (.bool !(Op.bytesLess b.toList a.toList)) := by
  rw [← bl_total]; simp [binOp, Op.stringOp]
theorem binOp_geq (t : TypeId) (a b : ByteArray) : binOp .geq t (.string a) (.string b) = pure (.bool !(Op.bytesLess a.toList b.toList)) := by simp [binOp, Op.stringOp]
theorem binOp_gtr (t : TypeId) (a b : ByteArray) : binOp .gtr t (.string a) (.string b) = pure (.bool (Op.bytesLess b.toList a.toList)) := by
  have h : binOp .gtr t (.string a) (.string b) = pure (.bool !(Op.bytesLess a.toList b.toList || a.toList == b.toList)) := by simp [binOp, Op.stringOp]
  rw [h, bl_total, Bool.not_not]
end Go.Proofs.YtbibnendaddbhaaX
namespace Go.Proofs.YtbibnendaddbhaaW.PrintWords
open Go.RowKit
namespace Kd
section
variable {P : Program} {ops : Array Oper} {rest : List Oper} {o : Oper} {a : Act} {Q : Exit → Act → World → Prop} {Kc : Act → World → Prop} {α : Type}
theorem run_makec {W : World} {t e : TypeId} {z : Value} {size bytes : Nat} (ht : P.underlying t = some (.slice e)) (hinfo : (P.info? e).map (fun i => (i.zero, i.size, i.bytes)) = some (some z, size, bytes)) (hb0 : 0 < bytes) (c : Int) (h0 : 0 ≤ c) (hl : c.toNat * bytes ≤ 281474976710656) :
    (Instr.makeSlice t (.int .i64 0) (.int .i64 c)).run P W = .ok (.slice (some ⟨W.heap.size, 0, none⟩) 0 c.toNat) (W.alloc (.cells (madeCells z.cells (c.toNat * size)) e)) := by
  obtain ⟨m, rfl⟩ := Int.eq_ofNat_of_zero_le h0
  simp only [Int.toNat_natCast] at hl ⊢
  obtain ⟨i0, hi, hzz⟩ := Option.map_eq_some_iff.1 hinfo
  simp only [Prod.mk.injEq] at hzz
  obtain ⟨hz0, hz1, hz2⟩ := hzz
  have hm : m ≤ 281474976710656 := Nat.le_trans (Nat.le_mul_of_pos_right _ hb0) hl
  have hr := run_make (P := P) W t e i0 z ht hi hz0 .i64 .i64 (0 : Int) (m : Int) (by omega) (by omega)
    (by
      have h3 : ((i0.bytes * m : Nat) : Int) ≤ 281474976710656 := by rw [hz2, Nat.mul_comm]; omega
      rwa [Int.natCast_mul] at h3) (by omega)
  simp only [Int.toNat_natCast] at hr
  rw [hz1] at hr
  simpa using hr
theorem own_makec {W : World} {base e size : Nat} {cur : Array Value} {c : Nat} (hbase : base ≤ W.heap.size) (hc : c ≤ 9223372036854775807) (hs : cur.size = c * size) :
    (W.alloc (.cells cur e)).ownsRow base e size (.slice (some ⟨W.heap.size, 0, none⟩) 0 c) 0 [] :=
  ⟨by simp, .inr ⟨W.heap.size, c, cur, rfl, hbase, heap_alloc_new W _, Nat.zero_le _, by simpa [maxLen] using hc, hs, by simp⟩⟩

set_option linter.unusedVariables false in
theorem R_makec (d : Kd α) {w0 W : World} (base e : Nat) (hgd : o.guard = none) {N : Tmp} (_hd : o.dst = some N) (t : TypeId) (x y : Operand) (ho : o.op = .makeSlice t x y) (c : Int) (hx : a.eval x = .int .i64 0) (hy : a.eval y = .int .i64 c)
    (ht : P.underlying t = some (.slice e)) (z : Value) (bytes : Nat) (hinfo : (P.info? e).map (fun i => (i.zero, i.size, i.bytes)) = some (some z, d.sz, bytes)) (hz : z.cells.size = d.sz) (hs0 : 0 < d.sz) (hb0 : 0 < bytes)
    {ok : Nat → Prop} (hfresh : ok W.heap.size) (h0 : 0 ≤ c) (hl : c.toNat * bytes ≤ 281474976710656) (HB : Below base w0 W) (hbase : base ≤ W.heap.size)
    (h : ∀ v1 w1, d.R e w1 base ok v1 ([] : List α) → Below base w0 w1 → W.grownBy w1 none → (∃ b, v1.ownBlock = some b ∧ W.heap.size ≤ b) → wpList P ops Q rest (a.put o.dst v1) w1) : wpList P ops Q (o :: rest) a W := by
  have hm : c.toNat ≤ 281474976710656 := Nat.le_trans (Nat.le_mul_of_pos_right _ hb0) hl
  have hr := run_makec (W := W) ht hinfo hb0 c h0 hl
  refine event_run (v := .slice (some ⟨W.heap.size, 0, none⟩) 0 c.toNat) (w1 := W.alloc (.cells (madeCells z.cells (c.toNat * d.sz)) e)) hgd ?_ (h _ _ ⟨fun k hk => ?_, [], own_makec hbase (by omega) (by simp [size_madeCells]), ⟨by simp, fun j p hj => by simp at hj⟩⟩ (HB.alloc hbase _) (World.grownBy_alloc W _ none) ⟨W.heap.size, by simp [Value.ownBlock], Nat.le_refl _⟩)
  · simp [execOp, ho, hx, hy, hr]
  · have : W.heap.size = k := by simpa [Value.ownBlock] using hk
    subst this
    exact hfresh
set_option linter.unusedVariables false in
theorem R_makec_step (d : Kd α) {w0 W : World} (base e : Nat) (hw : Region.wanted o (yielded ops a.tmps) = true) {N : Tmp} (_hd : o.dst = some N) (t : TypeId) (x y : Operand) (ho : o.op = .makeSlice t x y) (c : Int) (hx : a.eval x = .int .i64 0) (hy : a.eval y = .int .i64 c)
    (ht : P.underlying t = some (.slice e)) (z : Value) (bytes : Nat) (hinfo : (P.info? e).map (fun i => (i.zero, i.size, i.bytes)) = some (some z, d.sz, bytes)) (hz : z.cells.size = d.sz) (hs0 : 0 < d.sz) (hb0 : 0 < bytes)
    {ok : Nat → Prop} (hfresh : ok W.heap.size) (h0 : 0 ≤ c) (hl : c.toNat * bytes ≤ 281474976710656) (HB : Below base w0 W) (hbase : base ≤ W.heap.size)
    (h : ∀ v1 w1, d.R e w1 base ok v1 ([] : List α) → Below base w0 w1 → W.grownBy w1 none → (∃ b, v1.ownBlock = some b ∧ W.heap.size ≤ b) → Kc (a.put o.dst v1) w1) : if Region.wanted o (yielded ops a.tmps) = true then Oper.wp P o a W Kc Q else Kc (a.put o.dst undef) W := by
  have hm : c.toNat ≤ 281474976710656 := Nat.le_trans (Nat.le_mul_of_pos_right _ hb0) hl
  have hr := run_makec (W := W) ht hinfo hb0 c h0 hl
  refine event_step (v := .slice (some ⟨W.heap.size, 0, none⟩) 0 c.toNat) (w1 := W.alloc (.cells (madeCells z.cells (c.toNat * d.sz)) e)) hw ?_ (h _ _ ⟨fun k hk => ?_, [], own_makec hbase (by omega) (by simp [size_madeCells]), ⟨by simp, fun j p hj => by simp at hj⟩⟩ (HB.alloc hbase _) (World.grownBy_alloc W _ none) ⟨W.heap.size, by simp [Value.ownBlock], Nat.le_refl _⟩)
  · simp [execOp, ho, hx, hy, hr]
  · have : W.heap.size = k := by simpa [Value.ownBlock] using hk
    subst this
    exact hfresh
end
end Kd
end Go.Proofs.YtbibnendaddbhaaW.PrintWords
