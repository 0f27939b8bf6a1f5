/- A part of the proof of CodeDecodes: walks written by a program of this session. -/
import Derived.Test.YtlocnfkkfpfpfaazCDm1
namespace Go.Proofs.Ytlocnfkkfpfpfaa.Six
open Go.RowKit Go.Proofs.YtlocnfkkfpfpfaaW.PrintWords Go.Proofs.YtlocnfkkfpfpfaaW.PrintLast Go.Proofs.YtlocnfkkfpfpfaaW.PrintMore
attribute [local go_sem] max2_int min2_int max_two min_two max_three min_three max_four min_four
attribute [local go_sem] Go.Proofs.YtlocnfkkfpfpfaaX.binOp_leq Go.Proofs.YtlocnfkkfpfpfaaX.binOp_geq Go.Proofs.YtlocnfkkfpfpfaaX.binOp_gtr
set_option linter.unusedVariables false
set_option linter.unusedSimpArgs false
def berthref20_textsFit.l0 : Nat → List ByteArray → Int → Option (Bool)
  | 0, _, _ => none
  | k + 1, x0, x3 => if x3 < (x0.length : Int) then (if 0 ≤ x3 then (if ((rdOf ByteArray.empty x0 x3).size : Int) > 127 then (some false) else (if x3 > 0 then (if 0 ≤ (wrap64 (x3 - 1)) then (if (wrap64 (x3 - 1)) < (x0.length : Int) then (if ((Op.bytesLess ((rdOf ByteArray.empty x0 (wrap64 (x3 - 1))).toList) ((rdOf ByteArray.empty x0 x3).toList)) = true) then (berthref20_textsFit.l0 k x0 (wrap64 (x3 + 1))) else (some false)) else (none)) else (none)) else (berthref20_textsFit.l0 k x0 (wrap64 (x3 + 1))))) else (none)) else (some true)
def berthref20_textsFit.f (k : Nat) (l0 : List ByteArray) : Option (Bool) := berthref20_textsFit.l0 k l0 0
theorem berthref20_textsFit.mono_l : ∀ k, (∀ y0 y1, LeO (berthref20_textsFit.l0 k y0 y1) (berthref20_textsFit.l0 (k + 1) y0 y1))
  | 0 => fun _ _ r h => by simp [berthref20_textsFit.l0] at h
  | k + 1 => by
    have ih0 := berthref20_textsFit.mono_l k
    · intro y0 y1
      unfold berthref20_textsFit.l0
      repeat' first
      | (with_reducible exact ih0 _ _)
      | (with_reducible exact LeO.refl _)
      | (with_reducible exact LeO.none _)
      | (with_reducible refine LeO.ite ?_ ?_)
      | (with_reducible refine LeO.bind ?_ (fun _ => ?_))
      | exact ih0 _ _
      | exact LeO.none _
      | refine LeO.ite ?_ ?_
      | refine LeO.bind ?_ (fun _ => ?_)
theorem berthref20_textsFit.mono : ∀ a0 k, LeO (berthref20_textsFit.f k a0) (berthref20_textsFit.f (k + 1) a0) := by
  intro a0 k
  have ih0 := berthref20_textsFit.mono_l k
  unfold berthref20_textsFit.f
  repeat' first
      | (with_reducible exact ih0 _ _)
      | (with_reducible exact LeO.refl _)
      | (with_reducible exact LeO.none _)
      | (with_reducible refine LeO.ite ?_ ?_)
      | (with_reducible refine LeO.bind ?_ (fun _ => ?_))
      | exact ih0 _ _
      | exact LeO.none _
      | refine LeO.ite ?_ ?_
      | refine LeO.bind ?_ (fun _ => ?_)
def berthref20_numsFit.l0 : Nat → List Int → Int → Option (Bool)
  | 0, _, _ => none
  | k + 1, x0, x3 => if x3 < (x0.length : Int) then (if 0 ≤ x3 then (if (rd x0 x3) < (-1000000000000000000) then (some false) else (if (rd x0 x3) > 1000000000000000000 then (some false) else (if x3 > 0 then (if 0 ≤ (wrap64 (x3 - 1)) then (if (wrap64 (x3 - 1)) < (x0.length : Int) then (if (rd x0 (wrap64 (x3 - 1))) ≥ (rd x0 x3) then (some false) else (berthref20_numsFit.l0 k x0 (wrap64 (x3 + 1)))) else (none)) else (none)) else (berthref20_numsFit.l0 k x0 (wrap64 (x3 + 1)))))) else (none)) else (some true)
def berthref20_numsFit.f (k : Nat) (l0 : List Int) : Option (Bool) := berthref20_numsFit.l0 k l0 0
theorem berthref20_numsFit.mono_l : ∀ k, (∀ y0 y1, LeO (berthref20_numsFit.l0 k y0 y1) (berthref20_numsFit.l0 (k + 1) y0 y1))
  | 0 => fun _ _ r h => by simp [berthref20_numsFit.l0] at h
  | k + 1 => by
    have ih0 := berthref20_numsFit.mono_l k
    · intro y0 y1
      unfold berthref20_numsFit.l0
      repeat' first
      | (with_reducible exact ih0 _ _)
      | (with_reducible exact LeO.refl _)
      | (with_reducible exact LeO.none _)
      | (with_reducible refine LeO.ite ?_ ?_)
      | (with_reducible refine LeO.bind ?_ (fun _ => ?_))
      | exact ih0 _ _
      | exact LeO.none _
      | refine LeO.ite ?_ ?_
      | refine LeO.bind ?_ (fun _ => ?_)
theorem berthref20_numsFit.mono : ∀ a0 k, LeO (berthref20_numsFit.f k a0) (berthref20_numsFit.f (k + 1) a0) := by
  intro a0 k
  have ih0 := berthref20_numsFit.mono_l k
  unfold berthref20_numsFit.f
  repeat' first
      | (with_reducible exact ih0 _ _)
      | (with_reducible exact LeO.refl _)
      | (with_reducible exact LeO.none _)
      | (with_reducible refine LeO.ite ?_ ?_)
      | (with_reducible refine LeO.bind ?_ (fun _ => ?_))
      | exact ih0 _ _
      | exact LeO.none _
      | refine LeO.ite ?_ ?_
      | refine LeO.bind ?_ (fun _ => ?_)
def berthref20_operandFits.f (a0 : Int) (a1 : Bool) : Option (Bool) := if a1 = true then (if a0 ≥ 0 then (some (decide (a0 ≤ 65535))) else (some false)) else (some (a0 == 0))
def berthref20_Count.l0 : Nat → Int → List Int → Option (List Int)
  | 0, _, _ => none
  | k + 1, x0, x3 => if x0 > 127 then (if x3.length < 140737488355328 then (berthref20_Count.l0 k (wrap64 (Int.tdiv x0 128)) (x3 ++ [(wrap64 ((Int.tmod x0 128) + 128)) % 256])) else (none)) else (if x3.length < 140737488355328 then (some (x3 ++ [(x0) % 256])) else (none))
def berthref20_Count.f (k : Nat) (a0 : Int) : Option (List Int) := berthref20_Count.l0 k a0 (([] : List Int))
theorem berthref20_Count.mono_l : ∀ k, (∀ y0 y1, LeO (berthref20_Count.l0 k y0 y1) (berthref20_Count.l0 (k + 1) y0 y1))
  | 0 => fun _ _ r h => by simp [berthref20_Count.l0] at h
  | k + 1 => by
    have ih0 := berthref20_Count.mono_l k
    · intro y0 y1
      unfold berthref20_Count.l0
      repeat' first
      | (with_reducible exact ih0 _ _)
      | (with_reducible exact LeO.refl _)
      | (with_reducible exact LeO.none _)
      | (with_reducible refine LeO.ite ?_ ?_)
      | (with_reducible refine LeO.bind ?_ (fun _ => ?_))
      | exact ih0 _ _
      | exact LeO.none _
      | refine LeO.ite ?_ ?_
      | refine LeO.bind ?_ (fun _ => ?_)
theorem berthref20_Count.mono : ∀ a0 k, LeO (berthref20_Count.f k a0) (berthref20_Count.f (k + 1) a0) := by
  intro a0 k
  have ih0 := berthref20_Count.mono_l k
  unfold berthref20_Count.f
  repeat' first
      | (with_reducible exact ih0 _ _)
      | (with_reducible exact LeO.refl _)
      | (with_reducible exact LeO.none _)
      | (with_reducible refine LeO.ite ?_ ?_)
      | (with_reducible refine LeO.bind ?_ (fun _ => ?_))
      | exact ih0 _ _
      | exact LeO.none _
      | refine LeO.ite ?_ ?_
      | refine LeO.bind ?_ (fun _ => ?_)
def berthref20_text.f (k : Nat) (a0 : ByteArray) : Option (List Int) := (berthref20_Count.f k (a0.size : Int)).bind fun t297 => (if t297.length + a0.size < 140737488355328 then (some (t297 ++ bytesOf a0)) else (none))
theorem berthref20_text.mono : ∀ a0 k, LeO (berthref20_text.f k a0) (berthref20_text.f (k + 1) a0) := by
  intro a0 k
  unfold berthref20_text.f
  repeat' first
      | (with_reducible exact berthref20_Count.mono _ _)
      | (with_reducible exact LeO.refl _)
      | (with_reducible exact LeO.none _)
      | (with_reducible refine LeO.ite ?_ ?_)
      | (with_reducible refine LeO.bind ?_ (fun _ => ?_))
      | exact berthref20_Count.mono _ _
      | exact LeO.none _
      | refine LeO.ite ?_ ?_
      | refine LeO.bind ?_ (fun _ => ?_)
def berthref20_Signed.f (k : Nat) (a0 : Int) : Option (List Int) := if a0 ≥ 0 then ((berthref20_Count.f k (wrap64 (2 * a0))).bind fun t303 => (some t303)) else ((berthref20_Count.f k (wrap64 ((wrap64 ((-2) * a0)) - 1))).bind fun t306 => (some t306))
theorem berthref20_Signed.mono : ∀ a0 k, LeO (berthref20_Signed.f k a0) (berthref20_Signed.f (k + 1) a0) := by
  intro a0 k
  unfold berthref20_Signed.f
  repeat' first
      | (with_reducible exact berthref20_Count.mono _ _)
      | (with_reducible exact LeO.refl _)
      | (with_reducible exact LeO.none _)
      | (with_reducible refine LeO.ite ?_ ?_)
      | (with_reducible refine LeO.bind ?_ (fun _ => ?_))
      | exact berthref20_Count.mono _ _
      | exact LeO.none _
      | refine LeO.ite ?_ ?_
      | refine LeO.bind ?_ (fun _ => ?_)
end Go.Proofs.Ytlocnfkkfpfpfaa.Six
