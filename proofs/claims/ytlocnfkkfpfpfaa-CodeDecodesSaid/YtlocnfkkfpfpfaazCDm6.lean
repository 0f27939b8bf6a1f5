/- The reader's walks: instr. -/
import Derived.Test.YtlocnfkkfpfpfaazCDm2
import Derived.Test.YtlocnfkkfpfpfaazCDm5
namespace Go.Proofs.Ytlocnfkkfpfpfaa.D
open Go.RowKit Go.Proofs.YtlocnfkkfpfpfaaW.PrintWords Go.Proofs.YtlocnfkkfpfpfaaW.PrintLast Go.Proofs.YtlocnfkkfpfpfaaW.PrintMore Go.Proofs.Ytlocnfkkfpfpfaa.Six
set_option linter.unusedSimpArgs false
set_option linter.unusedVariables false
section
variable (x y z : Addr) (w : World)
theorem inf123a : (Try.prog.info? 123).map (fun i => i.size) = some 1 := by kernel_rfl
theorem inf123 : ∃ i, Try.prog.info? 123 = some i ∧ i.size = 1 := Option.map_eq_some_iff.1 inf123a
theorem ix124_0 : (Instr.index 124 (.agg #[.pointer (some x), .pointer (some y), .pointer (some z)]) (.int .i64 0)).run Try.prog w = .ok (.pointer (some x)) w := by
  obtain ⟨i, h1, h2⟩ := inf123
  simp [Instr.index, run_underlying Try.underlying124, asIntOf, part, sizeOf, typeInfo, h1, h2, isAgg, run_underlying Try.underlying123, go_sem]
theorem ix124_1 : (Instr.index 124 (.agg #[.pointer (some x), .pointer (some y), .pointer (some z)]) (.int .i64 1)).run Try.prog w = .ok (.pointer (some y)) w := by
  obtain ⟨i, h1, h2⟩ := inf123
  simp [Instr.index, run_underlying Try.underlying124, asIntOf, part, sizeOf, typeInfo, h1, h2, isAgg, run_underlying Try.underlying123, go_sem]
theorem ix124_2 : (Instr.index 124 (.agg #[.pointer (some x), .pointer (some y), .pointer (some z)]) (.int .i64 2)).run Try.prog w = .ok (.pointer (some z)) w := by
  obtain ⟨i, h1, h2⟩ := inf123
  simp [Instr.index, run_underlying Try.underlying124, asIntOf, part, sizeOf, typeInfo, h1, h2, isAgg, run_underlying Try.underlying123, go_sem]
end
attribute [local go_sem] ix124_0 ix124_1 ix124_2
def getN (bs : List Int) (b : Bool) (d q : Int) : Except (Int × Int) (Int × Int) := if b = true then countF bs q 0 65535 else .ok (d, q)
def instrL (bs : List Int) (u : Bool × Bool × Bool) (op : Int) : Nat → Int → Int → Int → Int → Except (Int × Int) (S74 × Int)
  | 0, a, b, c, q => match getN bs u.1 a q with | .error f => .error f | .ok (a, q) => match getN bs u.2.1 b q with | .error f => .error f | .ok (b, q) => match getN bs u.2.2 c q with | .error f => .error f | .ok (c, q) => .ok (⟨op, a, b, c⟩, q)
  | 1, a, b, c, q => match getN bs u.2.1 b q with | .error f => .error f | .ok (b, q) => match getN bs u.2.2 c q with | .error f => .error f | .ok (c, q) => .ok (⟨op, a, b, c⟩, q)
  | 2, a, b, c, q => match getN bs u.2.2 c q with | .error f => .error f | .ok (c, q) => .ok (⟨op, a, b, c⟩, q)
  | _, a, b, c, q => .ok (⟨op, a, b, c⟩, q)
theorem instrL_t0 (bs : List Int) (b2 b3 : Bool) (op a b c q : Int) : instrL bs (true, b2, b3) op 0 a b c q = match countF bs q 0 65535 with | .error f => .error f | .ok (a, q) => instrL bs (true, b2, b3) op 1 a b c q := rfl
theorem instrL_t1 (bs : List Int) (b1 b3 : Bool) (op a b c q : Int) : instrL bs (b1, true, b3) op 1 a b c q = match countF bs q 0 65535 with | .error f => .error f | .ok (b, q) => instrL bs (b1, true, b3) op 2 a b c q := rfl
theorem instrL_t2 (bs : List Int) (b1 b2 : Bool) (op a b c q : Int) : instrL bs (b1, b2, true) op 2 a b c q = match countF bs q 0 65535 with | .error f => .error f | .ok (c, q) => instrL bs (b1, b2, true) op 3 a b c q := rfl
def instrF (bs : List Int) (p : Int) : Except (Int × Int) (S74 × Int) :=
  if (bs.length : Int) ≤ p then .error (201, bs.length)
  else if bs.getD p.toNat 0 < 1 ∨ 36 < bs.getD p.toNat 0 then .error (203, p)
  else instrL bs (usesV (bs.getD p.toNat 0)) (bs.getD p.toNat 0) 0 0 0 0 (p + 1)
structure StI (w W : World) (R : Nat) (A : Option Addr) (cp : Nat) (bs : List Int) (q : Int) (X U Z : Nat) (op a b c : Int) (u : Bool × Bool × Bool) : Prop where
  rd : Rd w W R A cp bs q
  x : W.heap[X]? = some (.cells #[.int .i64 op, .int .i64 a, .int .i64 b, .int .i64 c] 74 (0, 0))
  u : W.heap[U]? = some (.cells #[.bool u.1, .bool u.2.1, .bool u.2.2] 75 (0, 0))
  xR : w.heap.size ≤ X
  uR : w.heap.size ≤ U
  ne : X ≠ U
  z : W.heap[Z]? = some (.cells #[.int .i64 0, .int .i64 0, .int .i64 0, .int .i64 0] 74 (0, 0))
  zR : w.heap.size ≤ Z
  nz : X ≠ Z
theorem StI.cells {w W : World} {R : Nat} {A : Option Addr} {cp : Nat} {bs : List Int} {q : Int} {X U Z : Nat} {op a b c : Int} {u : Bool × Bool × Bool} (h : StI w W R A cp bs q X U Z op a b c u) :
    W.cell? ⟨U, 0, none⟩ = some (.bool u.1) ∧ W.cell? ⟨U, 1, none⟩ = some (.bool u.2.1) ∧ W.cell? ⟨U, 2, none⟩ = some (.bool u.2.2) ∧
    W.cell? ⟨X, 0, none⟩ = some (.int .i64 op) ∧ W.cell? ⟨X, 1, none⟩ = some (.int .i64 a) ∧ W.cell? ⟨X, 2, none⟩ = some (.int .i64 b) ∧ W.cell? ⟨X, 3, none⟩ = some (.int .i64 c) ∧
    W.frozen? ⟨X, 1, none⟩ = false ∧ W.frozen? ⟨X, 2, none⟩ = false ∧ W.frozen? ⟨X, 3, none⟩ = false ∧ (W.cell? ⟨Z, 0, none⟩ = some (.int .i64 0) ∧ W.cell? ⟨Z, 1, none⟩ = some (.int .i64 0) ∧ W.cell? ⟨Z, 2, none⟩ = some (.int .i64 0) ∧ W.cell? ⟨Z, 3, none⟩ = some (.int .i64 0)) ∧ (W.frozen? ⟨Z, 0, none⟩ = false ∧ W.frozen? ⟨Z, 1, none⟩ = false ∧ W.frozen? ⟨Z, 2, none⟩ = false ∧ W.frozen? ⟨Z, 3, none⟩ = false) := by
  refine ⟨?_, ?_, ?_, ?_, ?_, ?_, ?_, ?_, ?_, ?_, ⟨?_, ?_, ?_, ?_⟩, ?_, ?_, ?_, ?_⟩ <;> simp [World.cell?, World.frozen?, h.x, h.u, h.z]
theorem StI.call {w W W2 : World} {R : Nat} {A : Option Addr} {cp : Nat} {bs : List Int} {q q2 : Int} {X U Z : Nat} {op a b c : Int} {u : Bool × Bool × Bool} (h : StI w W R A cp bs q X U Z op a b c u) (hR : R < w.heap.size) (k : Rd W W2 R A cp bs q2) : StI w W2 R A cp bs q2 X U Z op a b c u :=
  ⟨h.rd.trans k, (k.kept.2 X (blk_lt h.x) (by have := h.xR; omega)).trans h.x, (k.kept.2 U (blk_lt h.u) (by have := h.uR; omega)).trans h.u, h.xR, h.uR, h.ne, (k.kept.2 Z (blk_lt h.z) (by have := h.zR; omega)).trans h.z, h.zR, h.nz⟩
theorem StI.put1 {w W : World} {R : Nat} {A : Option Addr} {cp : Nat} {bs : List Int} {q : Int} {X U Z : Nat} {op a b c : Int} {u : Bool × Bool × Bool} (h : StI w W R A cp bs q X U Z op a b c u) (hR : R < w.heap.size) (n : Int) :
    StI w (W.setCell ⟨X, 1, none⟩ (.int .i64 n)) R A cp bs q X U Z op n b c u ∧ StI w (W.setCell ⟨X, 2, none⟩ (.int .i64 n)) R A cp bs q X U Z op a n c u ∧ StI w (W.setCell ⟨X, 3, none⟩ (.int .i64 n)) R A cp bs q X U Z op a b n u := by
  have hX := h.xR
  have hn := h.ne
  have hz := h.zR
  have hnz := h.nz
  refine ⟨⟨⟨h.rd.below.setCell (by simp; omega) _, h.rd.kept.setCell (.inr hX) _, ?_, h.rd.row⟩, ?_, ?_, hX, h.uR, hn, ?_, hz, hnz⟩, ⟨⟨h.rd.below.setCell (by simp; omega) _, h.rd.kept.setCell (.inr hX) _, ?_, h.rd.row⟩, ?_, ?_, hX, h.uR, hn, ?_, hz, hnz⟩, ⟨⟨h.rd.below.setCell (by simp; omega) _, h.rd.kept.setCell (.inr hX) _, ?_, h.rd.row⟩, ?_, ?_, hX, h.uR, hn, ?_, hz, hnz⟩⟩
  all_goals first
    | (rw [Below.heap_setCell _ _ _ _ (by simp; omega)]; exact h.rd.blk)
    | (rw [Below.heap_setCell _ _ _ _ (by simp; omega)]; exact h.u)
    | (rw [Below.heap_setCell _ _ _ _ (by simp; omega)]; exact h.z)
    | simp [World.setCell, h.x, Array.getElem?_modify]
theorem Rd.step {w wr w2 : World} {R : Nat} {A : Option Addr} {c : Nat} {bs : List Int} {p : Int} (h : Rd w wr R A c bs p) (hb : Below wr.heap.size wr w2) : Rd w w2 R A c bs p :=
  ⟨h.below.trans (hb.mono (Nat.le_of_lt h.lt)), h.kept.below hb, (hb.block R h.lt).trans h.blk, h.row⟩
theorem i3_start {w w3 : World} {R : Nat} {A : Option Addr} {cp : Nat} {bs : List Int} {p q op : Int} {u : Bool × Bool × Bool} (h : Rd w w R A cp bs p)
 (bel : Below ((((w.setCell ⟨R, 1, none⟩ (.int .i64 q)).alloc (.cells #[.int .i64 0, .int .i64 0, .int .i64 0, .int .i64 0] 74)).alloc (.cells #[.int .i64 op, .int .i64 0, .int .i64 0, .int .i64 0] 74)).drew.drew).heap.size
  (((w.setCell ⟨R, 1, none⟩ (.int .i64 q)).alloc (.cells #[.int .i64 0, .int .i64 0, .int .i64 0, .int .i64 0] 74)).alloc (.cells #[.int .i64 op, .int .i64 0, .int .i64 0, .int .i64 0] 74)).drew.drew w3) :
 StI w (w3.alloc (.cells #[.bool u.1, .bool u.2.1, .bool u.2.2] 75)) R A cp bs q (w.heap.size + 1) w3.heap.size w.heap.size op 0 0 0 u := by
 have h4 := (((h.set q).alloc (.cells #[.int .i64 0, .int .i64 0, .int .i64 0, .int .i64 0] 74)).alloc (.cells #[.int .i64 op, .int .i64 0, .int .i64 0, .int .i64 0] 74)).drew.drew.step bel
 have hs := bel.size
 have hs2 : w.heap.size + 2 ≤ w3.heap.size := by simpa [World.setCell] using hs
 refine ⟨h4.alloc _, ?_, heap_alloc_new _ _, by omega, by omega, by omega, ?_, by omega, by omega⟩
 ·
  rw [heap_alloc_old _ _ (by omega), bel.block _ (by simp [World.setCell])]
  have := heap_alloc_new ((w.setCell ⟨R, 1, none⟩ (.int .i64 q)).alloc (.cells #[.int .i64 0, .int .i64 0, .int .i64 0, .int .i64 0] 74)) (.cells #[.int .i64 op, .int .i64 0, .int .i64 0, .int .i64 0] 74)
  have e2 : ((w.setCell ⟨R, 1, none⟩ (.int .i64 q)).alloc (.cells #[.int .i64 0, .int .i64 0, .int .i64 0, .int .i64 0] 74)).heap.size = w.heap.size + 1 := by simp [World.setCell]
  rw [e2] at this
  exact this
 ·
  rw [heap_alloc_old _ _ (by omega), bel.block _ (by simp [World.setCell]; omega)]
  have := heap_alloc_new (w.setCell ⟨R, 1, none⟩ (.int .i64 q)) (.cells #[.int .i64 0, .int .i64 0, .int .i64 0, .int .i64 0] 74)
  have e : (w.setCell ⟨R, 1, none⟩ (.int .i64 q)).heap.size = w.heap.size := by simp [World.setCell]
  rw [e] at this
  show (((w.setCell ⟨R, 1, none⟩ (.int .i64 q)).alloc _).alloc _).heap[w.heap.size]? = _
  rw [heap_alloc_old _ _ (by simp [World.setCell])]
  exact this
theorem StI.done {w W : World} {R : Nat} {A : Option Addr} {cp : Nat} {bs : List Int} {q : Int} {X U Z : Nat} {op a b c : Int} {u : Bool × Bool × Bool} (h : StI w W R A cp bs q X U Z op a b c u) (hR : R < w.heap.size) (v0 v1 v2 v3 : Value) :
 Rd w ((((W.setCell ⟨Z, 0, none⟩ v0).setCell ⟨Z, 1, none⟩ v1).setCell ⟨Z, 2, none⟩ v2).setCell ⟨Z, 3, none⟩ v3) R A cp bs q ∧ ((((W.setCell ⟨Z, 0, none⟩ v0).setCell ⟨Z, 1, none⟩ v1).setCell ⟨Z, 2, none⟩ v2).setCell ⟨Z, 3, none⟩ v3).heap[Z]? = some (.cells #[v0, v1, v2, v3] 74 (0, 0)) := by
 have hZ := h.zR
 refine ⟨⟨(((h.rd.below.setCell (by simp; omega) _).setCell (by simp; omega) _).setCell (by simp; omega) _).setCell (by simp; omega) _, (((h.rd.kept.setCell (.inr hZ) _).setCell (.inr hZ) _).setCell (.inr hZ) _).setCell (.inr hZ) _, ?_, h.rd.row⟩, ?_⟩
 ·
  rw [Below.heap_setCell _ _ _ _ (by simp; omega), Below.heap_setCell _ _ _ _ (by simp; omega), Below.heap_setCell _ _ _ _ (by simp; omega), Below.heap_setCell _ _ _ _ (by simp; omega)]
  exact h.rd.blk
 ·
  simp [World.setCell, h.z, Array.getElem?_modify]
set_option maxHeartbeats 4000000 in
set_option maxRecDepth 100000 in
theorem instr_any (w : World) (R : Nat) (A : Option Addr) (cp : Nat) (bs : List Int) (p : Int) (h : Rd w w R A cp bs p) (hp : 0 ≤ p) (hp2 : p ≤ bs.length) (G : Good bs) :
 Calls Try.prog 81 #[.pointer (some ⟨R, 0, none⟩)] w (Fin w R A cp bs (instrF bs p) (fun x v _ => v = .agg #[.int .i64 x.f0, .int .i64 x.f1, .int .i64 x.f2, .int .i64 x.f3])) := by
 obtain ⟨c0, c1, z1⟩ := h.cells
 have hlen := G.len
 have hlt := h.lt
 unfold instrF
 by_cases hend : (bs.length : Int) ≤ p
 ·
  rw [if_pos hend]
  go_enter Try.func81, Try.ntmps81
  go_wp2_with (fail)
  go_region
  go_wp2_with ((with_reducible refine (fail_any _ _ _).mono ?_); rintro e w' ⟨rfl, rfl⟩)
  exact ⟨rfl, (Fin.fail (h.alloc _) (by simp) rfl).pdrew⟩
 ·
  rw [if_neg hend]
  obtain ⟨ad, rfl, hcell⟩ := h.byte p hp (by omega)
  have hx := G.byte (bs.getD p.toNat 0) (by rw [List.getD_eq_getElem?_getD, List.getElem?_eq_getElem (by omega)]; simp)
  have h2 := (h.alloc (.cells #[.int .i64 0, .int .i64 0, .int .i64 0, .int .i64 0] 74)).alloc (.cells #[.int .i64 0, .int .i64 0, .int .i64 0, .int .i64 0] 74)
  obtain ⟨ad', e', hcell2⟩ := h2.byte p hp (by omega)
  obtain rfl := Option.some.inj e'
  clear e'
  obtain ⟨ad', e', hcell1⟩ := (h.alloc (.cells #[.int .i64 0, .int .i64 0, .int .i64 0, .int .i64 0] 74)).byte p hp (by omega)
  obtain rfl := Option.some.inj e'
  clear e'
  generalize bs.getD p.toNat 0 = op at hcell hx hcell1 hcell2
  by_cases hop : op < 1 ∨ 36 < op
  ·
   rw [if_pos hop]
   go_enter Try.func81, Try.ntmps81
   go_wp2_with (fail)
   go_region
   go_wp2_with (fail)
   go_region
   go_wp2_with ((with_reducible refine (fail_any _ _ _).mono ?_); rintro e w' ⟨rfl, rfl⟩)
   all_goals exact ⟨rfl, (Fin.fail ((h.alloc _).alloc _) (by simp) rfl).pdrew.pdrew⟩
  ·
   rw [if_neg hop]
   have hop' : 1 ≤ op ∧ op ≤ 36 := by omega
   generalize hu : usesV op = u
   have uw : ∀ W, Calls Try.prog 35 #[.int .i64 op] W fun re w' => re = .returned (.agg #[.bool u.1, .bool u.2.1, .bool u.2.2]) ∧ Below W.heap.size W w' := fun W => by
    have := uses.walk op W
    rw [hu] at this
    exact this
   clear hu
   generalize hF : instrL bs u op 0 0 0 0 (p + 1) = F
   have HF := hid_ hF; clear hF
   go_enter Try.func81, Try.ntmps81
   go_wp2_with (fail)
   go_region
   go_wp2_with (fail)
   go_region
   go_wp2_with ((with_reducible refine (uw _).mono ?_); rintro e w3 ⟨rfl, bel⟩)
   have hS := i3_start (u := u) h bel
   clear bel hcell1 hcell2 hcell c0 c1 z1 uw h2
   generalize w3.heap.size = U at hS ⊢
   generalize w3.alloc (.cells #[.bool u.1, .bool u.2.1, .bool u.2.2] 75) = w4 at hS ⊢
   go_loopw [62] (fun i wr => ∃ (k : Nat) (a b c q : Int), k ≤ 3 ∧ i = .int .i64 k ∧ 0 ≤ q ∧ q ≤ bs.length ∧ StI w wr R (some ad) cp bs q (w.heap.size + 1) U w.heap.size op a b c u ∧ instrL bs u op k a b c q = F) (fun i _ => 3 - (intOf i).toNat)
   case atStart => exact ⟨0, 0, 0, 0, p + 1, by omega, rfl, by omega, by omega, hS, HF.out⟩
   case round =>
    clear hS HF
    obtain ⟨k, a, b, c, q, hk, rfl, hq, hq2, hS, he⟩ := hrel
    have HE := hid_ he; clear he
    obtain ⟨b1, b2, b3⟩ := u
    obtain ⟨e0, e1, e2, x0, x1, x2, x3, f1, f2, f3, ⟨y0, y1, y2, y3⟩, g0, g1, g2, g3⟩ := hS.cells
    have HC := count_any _ R (some ad) cp bs q 0 65535 hS.rd.self hq hq2 G.byte G.len (by omega) (by omega)
    have hk' : k = 0 ∨ k = 1 ∨ k = 2 ∨ k = 3 := by omega
    rcases hk' with rfl | rfl | rfl | rfl
    ·
     cases b1
     ·
      have HE1 : instrL bs (false, b2, b3) op 1 a b c q = F := HE.out
      have HE2 := hid_ HE1
      clear HE HE1 HC
      go_wp2_with (fail)
      go_roundw
      case rel => exact ⟨1, a, b, c, q, by omega, rfl, hq, hq2, hS, HE2.out⟩
      case measure => simp [intOf]
     ·
      cases hc : countF bs q 0 65535 with
      | error f =>
       rw [hc] at HC
       have HE1 := HE.out
       rw [instrL_t0, hc] at HE1
       have HE2 : Hid (F = Except.error f) := hid_ HE1.symm
       clear HE HE1 hc
       go_wp2_with ((with_reducible refine HC.mono ?_); intro e w' hf; obtain ⟨ps, rfl⟩ := hf.pan)
       exact ⟨rfl, Fin.trans hS.rd (hf.err HE2.out)⟩
      | ok xq =>
       obtain ⟨x, q2⟩ := xq
       obtain ⟨n1, n2, n3, n4⟩ := countF_ok hc
       rw [hc] at HC
       have HE1 := HE.out
       rw [instrL_t0, hc] at HE1
       have HE2 : Hid (instrL bs (true, b2, b3) op 1 x b c q2 = F) := hid_ HE1
       clear HE HE1 hc e0 e1 e2 x0 x1 x2 x3 f1 f2 f3 y0 y1 y2 y3 g0 g1 g2 g3
       obtain ⟨e0, e1, e2, x0, x1, x2, x3, f1, f2, f3, _⟩ := hS.cells
       go_wp2_with ((with_reducible refine HC.mono ?_); rintro e w' ⟨v, rfl, rfl, hr⟩; have hS2 := hS.call hlt hr; clear e0 e1 e2 x0 x1 x2 x3 f1 f2 f3; obtain ⟨e0, e1, e2, x0, x1, x2, x3, f1, f2, f3, _⟩ := hS2.cells)
       go_roundw
       case rel => exact ⟨1, x, b, c, q2, by omega, rfl, by omega, n4, (hS2.put1 hlt x).1, HE2.out⟩
       case measure => simp [intOf]
    ·
     cases b2
     ·
      have HE1 : instrL bs (b1, false, b3) op 2 a b c q = F := HE.out
      have HE2 := hid_ HE1
      clear HE HE1 HC
      go_wp2_with (fail)
      go_roundw
      case rel => exact ⟨2, a, b, c, q, by omega, rfl, hq, hq2, hS, HE2.out⟩
      case measure => simp [intOf]
     ·
      cases hc : countF bs q 0 65535 with
      | error f =>
       rw [hc] at HC
       have HE1 := HE.out
       rw [instrL_t1, hc] at HE1
       have HE2 : Hid (F = Except.error f) := hid_ HE1.symm
       clear HE HE1 hc
       go_wp2_with ((with_reducible refine HC.mono ?_); intro e w' hf; obtain ⟨ps, rfl⟩ := hf.pan)
       exact ⟨rfl, Fin.trans hS.rd (hf.err HE2.out)⟩
      | ok xq =>
       obtain ⟨x, q2⟩ := xq
       obtain ⟨n1, n2, n3, n4⟩ := countF_ok hc
       rw [hc] at HC
       have HE1 := HE.out
       rw [instrL_t1, hc] at HE1
       have HE2 : Hid (instrL bs (b1, true, b3) op 2 a x c q2 = F) := hid_ HE1
       clear HE HE1 hc e0 e1 e2 x0 x1 x2 x3 f1 f2 f3 y0 y1 y2 y3 g0 g1 g2 g3
       obtain ⟨e0, e1, e2, x0, x1, x2, x3, f1, f2, f3, _⟩ := hS.cells
       go_wp2_with ((with_reducible refine HC.mono ?_); rintro e w' ⟨v, rfl, rfl, hr⟩; have hS2 := hS.call hlt hr; clear e0 e1 e2 x0 x1 x2 x3 f1 f2 f3; obtain ⟨e0, e1, e2, x0, x1, x2, x3, f1, f2, f3, _⟩ := hS2.cells)
       go_roundw
       case rel => exact ⟨2, a, x, c, q2, by omega, rfl, by omega, n4, (hS2.put1 hlt x).2.1, HE2.out⟩
       case measure => simp [intOf]
    ·
     cases b3
     ·
      have HE1 : instrL bs (b1, b2, false) op 3 a b c q = F := HE.out
      have HE2 := hid_ HE1
      clear HE HE1 HC
      go_wp2_with (fail)
      go_roundw
      case rel => exact ⟨3, a, b, c, q, by omega, rfl, hq, hq2, hS, HE2.out⟩
      case measure => simp [intOf]
     ·
      cases hc : countF bs q 0 65535 with
      | error f =>
       rw [hc] at HC
       have HE1 := HE.out
       rw [instrL_t2, hc] at HE1
       have HE2 : Hid (F = Except.error f) := hid_ HE1.symm
       clear HE HE1 hc
       go_wp2_with ((with_reducible refine HC.mono ?_); intro e w' hf; obtain ⟨ps, rfl⟩ := hf.pan)
       exact ⟨rfl, Fin.trans hS.rd (hf.err HE2.out)⟩
      | ok xq =>
       obtain ⟨x, q2⟩ := xq
       obtain ⟨n1, n2, n3, n4⟩ := countF_ok hc
       rw [hc] at HC
       have HE1 := HE.out
       rw [instrL_t2, hc] at HE1
       have HE2 : Hid (instrL bs (b1, b2, true) op 3 a b x q2 = F) := hid_ HE1
       clear HE HE1 hc e0 e1 e2 x0 x1 x2 x3 f1 f2 f3 y0 y1 y2 y3 g0 g1 g2 g3
       obtain ⟨e0, e1, e2, x0, x1, x2, x3, f1, f2, f3, _⟩ := hS.cells
       go_wp2_with ((with_reducible refine HC.mono ?_); rintro e w' ⟨v, rfl, rfl, hr⟩; have hS2 := hS.call hlt hr; clear e0 e1 e2 x0 x1 x2 x3 f1 f2 f3; obtain ⟨e0, e1, e2, x0, x1, x2, x3, f1, f2, f3, _⟩ := hS2.cells)
       go_roundw
       case rel => exact ⟨3, a, b, x, q2, by omega, rfl, by omega, n4, (hS2.put1 hlt x).2.2, HE2.out⟩
       case measure => simp [intOf]
    ·
     have HE1 : Except.ok ((⟨op, a, b, c⟩ : S74), q) = F := HE.out
     clear HE HC
     subst HE1
     go_wp2_with (fail)
     have hd := hS.done hlt (.int .i64 op) (.int .i64 a) (.int .i64 b) (.int .i64 c)
     exact bodyPost_ret (results_cell_row rfl _ _ w.heap.size _ _ _ _ rfl hd.2 Try.underlying74 rfl rfl) rfl ⟨_, rfl, rfl, hd.1⟩
end Go.Proofs.Ytlocnfkkfpfpfaa.D
