/- A part of the proof of CodeDecodes: walks written by a program of this session. -/
import Derived.Test.YtlocnfkkfpfpfaazCDm1
import Derived.Test.YtlocnfkkfpfpfaazCDm20
import Derived.Test.YtlocnfkkfpfpfaazCDm21
namespace Go.Proofs.Ytlocnfkkfpfpfaa.Six
open Go.RowKit Go.Proofs.YtlocnfkkfpfpfaaW.PrintWords Go.Proofs.YtlocnfkkfpfpfaaW.PrintLast Go.Proofs.YtlocnfkkfpfpfaaW.PrintMore
attribute [local go_sem] max2_int min2_int max_two min_two max_three min_three max_four min_four
attribute [local go_sem] Go.Proofs.YtlocnfkkfpfpfaaX.binOp_leq Go.Proofs.YtlocnfkkfpfpfaaX.binOp_geq Go.Proofs.YtlocnfkkfpfpfaaX.binOp_gtr
set_option linter.unusedVariables false
set_option linter.unusedSimpArgs false
attribute [local go_sem high] eqA74
mutual
def berthref20_Same.j0 : Nat → Bool → List ByteArray → List Int → List (List ByteArray) → List (List Int) → List (S74) → Int → Int → List ByteArray → List Int → List (List ByteArray) → List (List Int) → List (S74) → Int → Int → Option (Bool)
  | 0, _, _, _, _, _, _, _, _, _, _, _, _, _, _, _ => none
  | k + 1, x62, x207000, x207001, x207002, x207003, x207004, x207005, x207006, x208000, x208001, x208002, x208003, x208004, x208005, x208006 => if x62 = true then (some false) else (berthref20_Same.l0 k 0 x207000 x207001 x207002 x207003 x207004 x207005 x207006 x208000 x208001 x208002 x208003 x208004 x208005 x208006)
def berthref20_Same.l0 : Nat → Int → List ByteArray → List Int → List (List ByteArray) → List (List Int) → List (S74) → Int → Int → List ByteArray → List Int → List (List ByteArray) → List (List Int) → List (S74) → Int → Int → Option (Bool)
  | 0, _, _, _, _, _, _, _, _, _, _, _, _, _, _, _ => none
  | k + 1, x5, x207000, x207001, x207002, x207003, x207004, x207005, x207006, x208000, x208001, x208002, x208003, x208004, x208005, x208006 => if x5 < (x207002.length : Int) then (if 0 ≤ x5 then (if x5 < (x208002.length : Int) then ((berthref20_sameTexts.f k (rd_L2 x207002 x5) (rd_L2 x208002 x5)).bind fun t212 => (if t212 = true then (berthref20_Same.l0 k (wrap64 (x5 + 1)) x207000 x207001 x207002 x207003 x207004 x207005 x207006 x208000 x208001 x208002 x208003 x208004 x208005 x208006) else (some false))) else (none)) else (none)) else (berthref20_Same.l1 k 0 x207000 x207001 x207002 x207003 x207004 x207005 x207006 x208000 x208001 x208002 x208003 x208004 x208005 x208006)
def berthref20_Same.l1 : Nat → Int → List ByteArray → List Int → List (List ByteArray) → List (List Int) → List (S74) → Int → Int → List ByteArray → List Int → List (List ByteArray) → List (List Int) → List (S74) → Int → Int → Option (Bool)
  | 0, _, _, _, _, _, _, _, _, _, _, _, _, _, _, _ => none
  | k + 1, x6, x207000, x207001, x207002, x207003, x207004, x207005, x207006, x208000, x208001, x208002, x208003, x208004, x208005, x208006 => if x6 < (x207003.length : Int) then (if 0 ≤ x6 then (if x6 < (x208003.length : Int) then ((berthref20_sameNums.f k (rd_L3 x207003 x6) (rd_L3 x208003 x6)).bind fun t215 => (if t215 = true then (berthref20_Same.l1 k (wrap64 (x6 + 1)) x207000 x207001 x207002 x207003 x207004 x207005 x207006 x208000 x208001 x208002 x208003 x208004 x208005 x208006) else (some false))) else (none)) else (none)) else (berthref20_Same.l2 k 0 x207000 x207001 x207002 x207003 x207004 x207005 x207006 x208000 x208001 x208002 x208003 x208004 x208005 x208006)
def berthref20_Same.l2 : Nat → Int → List ByteArray → List Int → List (List ByteArray) → List (List Int) → List (S74) → Int → Int → List ByteArray → List Int → List (List ByteArray) → List (List Int) → List (S74) → Int → Int → Option (Bool)
  | 0, _, _, _, _, _, _, _, _, _, _, _, _, _, _, _ => none
  | k + 1, x7, x207000, x207001, x207002, x207003, x207004, x207005, x207006, x208000, x208001, x208002, x208003, x208004, x208005, x208006 => if x7 < (x207004.length : Int) then (if 0 ≤ x7 then (if x7 < (x208004.length : Int) then (if (!(((rd_T74 x207004 x7).f0) == ((rd_T74 x208004 x7).f0)) || (!(((rd_T74 x207004 x7).f1) == ((rd_T74 x208004 x7).f1)) || (!(((rd_T74 x207004 x7).f2) == ((rd_T74 x208004 x7).f2)) || (!(((rd_T74 x207004 x7).f3) == ((rd_T74 x208004 x7).f3)))))) = true then (some false) else (berthref20_Same.l2 k (wrap64 (x7 + 1)) x207000 x207001 x207002 x207003 x207004 x207005 x207006 x208000 x208001 x208002 x208003 x208004 x208005 x208006)) else (none)) else (none)) else (some true)
end
def berthref20_Same.f (k : Nat) (l0_0 : List ByteArray) (l0_1 : List Int) (l0_2 : List (List ByteArray)) (l0_3 : List (List Int)) (l0_4 : List (S74)) (a0_5 : Int) (a0_6 : Int) (l1_0 : List ByteArray) (l1_1 : List Int) (l1_2 : List (List ByteArray)) (l1_3 : List (List Int)) (l1_4 : List (S74)) (a1_5 : Int) (a1_6 : Int) : Option (Bool) := if a0_5 = a1_5 then (if a0_6 = a1_6 then ((berthref20_sameTexts.f k l0_0 l1_0).bind fun t208 => (if t208 = true then ((berthref20_sameNums.f k l0_1 l1_1).bind fun t209 => (if t209 = true then (if (l0_2.length : Int) = (l1_2.length : Int) then (if (l0_3.length : Int) = (l1_3.length : Int) then (berthref20_Same.j0 k ((l0_4.length : Int) != (l1_4.length : Int)) l0_0 l0_1 l0_2 l0_3 l0_4 a0_5 a0_6 l1_0 l1_1 l1_2 l1_3 l1_4 a1_5 a1_6) else (berthref20_Same.j0 k true l0_0 l0_1 l0_2 l0_3 l0_4 a0_5 a0_6 l1_0 l1_1 l1_2 l1_3 l1_4 a1_5 a1_6)) else (berthref20_Same.j0 k true l0_0 l0_1 l0_2 l0_3 l0_4 a0_5 a0_6 l1_0 l1_1 l1_2 l1_3 l1_4 a1_5 a1_6)) else (berthref20_Same.j0 k true l0_0 l0_1 l0_2 l0_3 l0_4 a0_5 a0_6 l1_0 l1_1 l1_2 l1_3 l1_4 a1_5 a1_6))) else (berthref20_Same.j0 k true l0_0 l0_1 l0_2 l0_3 l0_4 a0_5 a0_6 l1_0 l1_1 l1_2 l1_3 l1_4 a1_5 a1_6))) else (berthref20_Same.j0 k true l0_0 l0_1 l0_2 l0_3 l0_4 a0_5 a0_6 l1_0 l1_1 l1_2 l1_3 l1_4 a1_5 a1_6)) else (berthref20_Same.j0 k true l0_0 l0_1 l0_2 l0_3 l0_4 a0_5 a0_6 l1_0 l1_1 l1_2 l1_3 l1_4 a1_5 a1_6)
theorem berthref20_Same.mono_l : ∀ k, (∀ y0 y1 y2 y3 y4 y5 y6 y7 y8 y9 y10 y11 y12 y13 y14, LeO (berthref20_Same.j0 k y0 y1 y2 y3 y4 y5 y6 y7 y8 y9 y10 y11 y12 y13 y14) (berthref20_Same.j0 (k + 1) y0 y1 y2 y3 y4 y5 y6 y7 y8 y9 y10 y11 y12 y13 y14)) ∧ (∀ y0 y1 y2 y3 y4 y5 y6 y7 y8 y9 y10 y11 y12 y13 y14, LeO (berthref20_Same.l0 k y0 y1 y2 y3 y4 y5 y6 y7 y8 y9 y10 y11 y12 y13 y14) (berthref20_Same.l0 (k + 1) y0 y1 y2 y3 y4 y5 y6 y7 y8 y9 y10 y11 y12 y13 y14)) ∧ (∀ y0 y1 y2 y3 y4 y5 y6 y7 y8 y9 y10 y11 y12 y13 y14, LeO (berthref20_Same.l1 k y0 y1 y2 y3 y4 y5 y6 y7 y8 y9 y10 y11 y12 y13 y14) (berthref20_Same.l1 (k + 1) y0 y1 y2 y3 y4 y5 y6 y7 y8 y9 y10 y11 y12 y13 y14)) ∧ (∀ y0 y1 y2 y3 y4 y5 y6 y7 y8 y9 y10 y11 y12 y13 y14, LeO (berthref20_Same.l2 k y0 y1 y2 y3 y4 y5 y6 y7 y8 y9 y10 y11 y12 y13 y14) (berthref20_Same.l2 (k + 1) y0 y1 y2 y3 y4 y5 y6 y7 y8 y9 y10 y11 y12 y13 y14))
  | 0 => ⟨fun _ _ _ _ _ _ _ _ _ _ _ _ _ _ _ r h => by simp [berthref20_Same.j0] at h, fun _ _ _ _ _ _ _ _ _ _ _ _ _ _ _ r h => by simp [berthref20_Same.l0] at h, fun _ _ _ _ _ _ _ _ _ _ _ _ _ _ _ r h => by simp [berthref20_Same.l1] at h, fun _ _ _ _ _ _ _ _ _ _ _ _ _ _ _ r h => by simp [berthref20_Same.l2] at h⟩
  | k + 1 => by
    obtain ⟨ih0, ih1, ih2, ih3⟩ := berthref20_Same.mono_l k
    refine ⟨?_, ?_, ?_, ?_⟩
    · intro y0 y1 y2 y3 y4 y5 y6 y7 y8 y9 y10 y11 y12 y13 y14
      unfold berthref20_Same.j0
      repeat' first
      | (with_reducible exact ih0 _ _ _ _ _ _ _ _ _ _ _ _ _ _ _)
      | (with_reducible exact ih1 _ _ _ _ _ _ _ _ _ _ _ _ _ _ _)
      | (with_reducible exact ih2 _ _ _ _ _ _ _ _ _ _ _ _ _ _ _)
      | (with_reducible exact ih3 _ _ _ _ _ _ _ _ _ _ _ _ _ _ _)
      | (with_reducible exact berthref20_sameNums.mono _ _ _)
      | (with_reducible exact berthref20_sameTexts.mono _ _ _)
      | (with_reducible exact LeO.refl _)
      | (with_reducible exact LeO.none _)
      | (with_reducible refine LeO.ite ?_ ?_)
      | (with_reducible refine LeO.bind ?_ (fun _ => ?_))
      | exact ih0 _ _ _ _ _ _ _ _ _ _ _ _ _ _ _
      | exact ih1 _ _ _ _ _ _ _ _ _ _ _ _ _ _ _
      | exact ih2 _ _ _ _ _ _ _ _ _ _ _ _ _ _ _
      | exact ih3 _ _ _ _ _ _ _ _ _ _ _ _ _ _ _
      | exact berthref20_sameNums.mono _ _ _
      | exact berthref20_sameTexts.mono _ _ _
      | exact LeO.none _
      | refine LeO.ite ?_ ?_
      | refine LeO.bind ?_ (fun _ => ?_)
    · intro y0 y1 y2 y3 y4 y5 y6 y7 y8 y9 y10 y11 y12 y13 y14
      unfold berthref20_Same.l0
      repeat' first
      | (with_reducible exact ih0 _ _ _ _ _ _ _ _ _ _ _ _ _ _ _)
      | (with_reducible exact ih1 _ _ _ _ _ _ _ _ _ _ _ _ _ _ _)
      | (with_reducible exact ih2 _ _ _ _ _ _ _ _ _ _ _ _ _ _ _)
      | (with_reducible exact ih3 _ _ _ _ _ _ _ _ _ _ _ _ _ _ _)
      | (with_reducible exact berthref20_sameNums.mono _ _ _)
      | (with_reducible exact berthref20_sameTexts.mono _ _ _)
      | (with_reducible exact LeO.refl _)
      | (with_reducible exact LeO.none _)
      | (with_reducible refine LeO.ite ?_ ?_)
      | (with_reducible refine LeO.bind ?_ (fun _ => ?_))
      | exact ih0 _ _ _ _ _ _ _ _ _ _ _ _ _ _ _
      | exact ih1 _ _ _ _ _ _ _ _ _ _ _ _ _ _ _
      | exact ih2 _ _ _ _ _ _ _ _ _ _ _ _ _ _ _
      | exact ih3 _ _ _ _ _ _ _ _ _ _ _ _ _ _ _
      | exact berthref20_sameNums.mono _ _ _
      | exact berthref20_sameTexts.mono _ _ _
      | exact LeO.none _
      | refine LeO.ite ?_ ?_
      | refine LeO.bind ?_ (fun _ => ?_)
    · intro y0 y1 y2 y3 y4 y5 y6 y7 y8 y9 y10 y11 y12 y13 y14
      unfold berthref20_Same.l1
      repeat' first
      | (with_reducible exact ih0 _ _ _ _ _ _ _ _ _ _ _ _ _ _ _)
      | (with_reducible exact ih1 _ _ _ _ _ _ _ _ _ _ _ _ _ _ _)
      | (with_reducible exact ih2 _ _ _ _ _ _ _ _ _ _ _ _ _ _ _)
      | (with_reducible exact ih3 _ _ _ _ _ _ _ _ _ _ _ _ _ _ _)
      | (with_reducible exact berthref20_sameNums.mono _ _ _)
      | (with_reducible exact berthref20_sameTexts.mono _ _ _)
      | (with_reducible exact LeO.refl _)
      | (with_reducible exact LeO.none _)
      | (with_reducible refine LeO.ite ?_ ?_)
      | (with_reducible refine LeO.bind ?_ (fun _ => ?_))
      | exact ih0 _ _ _ _ _ _ _ _ _ _ _ _ _ _ _
      | exact ih1 _ _ _ _ _ _ _ _ _ _ _ _ _ _ _
      | exact ih2 _ _ _ _ _ _ _ _ _ _ _ _ _ _ _
      | exact ih3 _ _ _ _ _ _ _ _ _ _ _ _ _ _ _
      | exact berthref20_sameNums.mono _ _ _
      | exact berthref20_sameTexts.mono _ _ _
      | exact LeO.none _
      | refine LeO.ite ?_ ?_
      | refine LeO.bind ?_ (fun _ => ?_)
    · intro y0 y1 y2 y3 y4 y5 y6 y7 y8 y9 y10 y11 y12 y13 y14
      unfold berthref20_Same.l2
      repeat' first
      | (with_reducible exact ih0 _ _ _ _ _ _ _ _ _ _ _ _ _ _ _)
      | (with_reducible exact ih1 _ _ _ _ _ _ _ _ _ _ _ _ _ _ _)
      | (with_reducible exact ih2 _ _ _ _ _ _ _ _ _ _ _ _ _ _ _)
      | (with_reducible exact ih3 _ _ _ _ _ _ _ _ _ _ _ _ _ _ _)
      | (with_reducible exact berthref20_sameNums.mono _ _ _)
      | (with_reducible exact berthref20_sameTexts.mono _ _ _)
      | (with_reducible exact LeO.refl _)
      | (with_reducible exact LeO.none _)
      | (with_reducible refine LeO.ite ?_ ?_)
      | (with_reducible refine LeO.bind ?_ (fun _ => ?_))
      | exact ih0 _ _ _ _ _ _ _ _ _ _ _ _ _ _ _
      | exact ih1 _ _ _ _ _ _ _ _ _ _ _ _ _ _ _
      | exact ih2 _ _ _ _ _ _ _ _ _ _ _ _ _ _ _
      | exact ih3 _ _ _ _ _ _ _ _ _ _ _ _ _ _ _
      | exact berthref20_sameNums.mono _ _ _
      | exact berthref20_sameTexts.mono _ _ _
      | exact LeO.none _
      | refine LeO.ite ?_ ?_
      | refine LeO.bind ?_ (fun _ => ?_)
theorem berthref20_Same.mono : ∀ a0 a1 a2 a3 a4 a5 a6 a7 a8 a9 a10 a11 a12 a13 k, LeO (berthref20_Same.f k a0 a1 a2 a3 a4 a5 a6 a7 a8 a9 a10 a11 a12 a13) (berthref20_Same.f (k + 1) a0 a1 a2 a3 a4 a5 a6 a7 a8 a9 a10 a11 a12 a13) := by
  intro a0 a1 a2 a3 a4 a5 a6 a7 a8 a9 a10 a11 a12 a13 k
  obtain ⟨ih0, ih1, ih2, ih3⟩ := berthref20_Same.mono_l k
  unfold berthref20_Same.f
  repeat' first
      | (with_reducible exact ih0 _ _ _ _ _ _ _ _ _ _ _ _ _ _ _)
      | (with_reducible exact ih1 _ _ _ _ _ _ _ _ _ _ _ _ _ _ _)
      | (with_reducible exact ih2 _ _ _ _ _ _ _ _ _ _ _ _ _ _ _)
      | (with_reducible exact ih3 _ _ _ _ _ _ _ _ _ _ _ _ _ _ _)
      | (with_reducible exact berthref20_sameNums.mono _ _ _)
      | (with_reducible exact berthref20_sameTexts.mono _ _ _)
      | (with_reducible exact LeO.refl _)
      | (with_reducible exact LeO.none _)
      | (with_reducible refine LeO.ite ?_ ?_)
      | (with_reducible refine LeO.bind ?_ (fun _ => ?_))
      | exact ih0 _ _ _ _ _ _ _ _ _ _ _ _ _ _ _
      | exact ih1 _ _ _ _ _ _ _ _ _ _ _ _ _ _ _
      | exact ih2 _ _ _ _ _ _ _ _ _ _ _ _ _ _ _
      | exact ih3 _ _ _ _ _ _ _ _ _ _ _ _ _ _ _
      | exact berthref20_sameNums.mono _ _ _
      | exact berthref20_sameTexts.mono _ _ _
      | exact LeO.none _
      | refine LeO.ite ?_ ?_
      | refine LeO.bind ?_ (fun _ => ?_)
set_option maxHeartbeats 8000000 in
set_option maxRecDepth 100000 in
theorem berthref20_Same.calls (k : Nat) (A0_0 : Option Addr) (c0_0 : Nat) (l0_0 : List ByteArray) (A0_1 : Option Addr) (c0_1 : Nat) (l0_1 : List Int) (A0_2 : Option Addr) (c0_2 : Nat) (l0_2 : List (List ByteArray)) (A0_3 : Option Addr) (c0_3 : Nat) (l0_3 : List (List Int)) (A0_4 : Option Addr) (c0_4 : Nat) (l0_4 : List (S74)) (a0_5 : Int) (a0_6 : Int) (A1_0 : Option Addr) (c1_0 : Nat) (l1_0 : List ByteArray) (A1_1 : Option Addr) (c1_1 : Nat) (l1_1 : List Int) (A1_2 : Option Addr) (c1_2 : Nat) (l1_2 : List (List ByteArray)) (A1_3 : Option Addr) (c1_3 : Nat) (l1_3 : List (List Int)) (A1_4 : Option Addr) (c1_4 : Nat) (l1_4 : List (S74)) (a1_5 : Int) (a1_6 : Int) (r : Bool) (w : World) (hr0_0 : Kd.C Kd.string w A0_0 l0_0.length l0_0) (hc0_0 : l0_0.length ≤ c0_0) (hr0_1 : Kd.C (Kd.int .i64) w A0_1 l0_1.length l0_1) (hc0_1 : l0_1.length ≤ c0_1) (hr0_2 : Kd.C (Kd.slice 9 Kd.string) w A0_2 l0_2.length l0_2) (hc0_2 : l0_2.length ≤ c0_2) (hr0_3 : Kd.C (Kd.slice 3 (Kd.int .i64)) w A0_3 l0_3.length l0_3) (hc0_3 : l0_3.length ≤ c0_3) (hr0_4 : Kd.C k74 w A0_4 l0_4.length l0_4) (hc0_4 : l0_4.length ≤ c0_4) (hr1_0 : Kd.C Kd.string w A1_0 l1_0.length l1_0) (hc1_0 : l1_0.length ≤ c1_0) (hr1_1 : Kd.C (Kd.int .i64) w A1_1 l1_1.length l1_1) (hc1_1 : l1_1.length ≤ c1_1) (hr1_2 : Kd.C (Kd.slice 9 Kd.string) w A1_2 l1_2.length l1_2) (hc1_2 : l1_2.length ≤ c1_2) (hr1_3 : Kd.C (Kd.slice 3 (Kd.int .i64)) w A1_3 l1_3.length l1_3) (hc1_3 : l1_3.length ≤ c1_3) (hr1_4 : Kd.C k74 w A1_4 l1_4.length l1_4) (hc1_4 : l1_4.length ≤ c1_4) (h : berthref20_Same.f k l0_0 l0_1 l0_2 l0_3 l0_4 a0_5 a0_6 l1_0 l1_1 l1_2 l1_3 l1_4 a1_5 a1_6 = some r) :
 Calls Try.prog 18 #[.agg #[.slice A0_0 l0_0.length c0_0, .slice A0_1 l0_1.length c0_1, .slice A0_2 l0_2.length c0_2, .slice A0_3 l0_3.length c0_3, .slice A0_4 l0_4.length c0_4, .int .i64 a0_5, .int .i64 a0_6], .agg #[.slice A1_0 l1_0.length c1_0, .slice A1_1 l1_1.length c1_1, .slice A1_2 l1_2.length c1_2, .slice A1_3 l1_3.length c1_3, .slice A1_4 l1_4.length c1_4, .int .i64 a1_5, .int .i64 a1_6]] w fun e w' => e = .returned (.bool r) ∧ Below w.heap.size w w' := by
 have hu32 := Try.underlying32
 have hu74 := Try.underlying74
 have HR0_0 := Aside0.mk hr0_0
 have HC0_0 := Aside0.mk hc0_0
 clear hr0_0 hc0_0
 have HR0_1 := Aside0.mk hr0_1
 have HC0_1 := Aside0.mk hc0_1
 clear hr0_1 hc0_1
 have HR0_2 := Aside0.mk hr0_2
 have HC0_2 := Aside0.mk hc0_2
 clear hr0_2 hc0_2
 have HR0_3 := Aside0.mk hr0_3
 have HC0_3 := Aside0.mk hc0_3
 clear hr0_3 hc0_3
 have HR0_4 := Aside0.mk hr0_4
 have HC0_4 := Aside0.mk hc0_4
 clear hr0_4 hc0_4
 have HR1_0 := Aside0.mk hr1_0
 have HC1_0 := Aside0.mk hc1_0
 clear hr1_0 hc1_0
 have HR1_1 := Aside0.mk hr1_1
 have HC1_1 := Aside0.mk hc1_1
 clear hr1_1 hc1_1
 have HR1_2 := Aside0.mk hr1_2
 have HC1_2 := Aside0.mk hc1_2
 clear hr1_2 hc1_2
 have HR1_3 := Aside0.mk hr1_3
 have HC1_3 := Aside0.mk hc1_3
 clear hr1_3 hc1_3
 have HR1_4 := Aside0.mk hr1_4
 have HC1_4 := Aside0.mk hc1_4
 clear hr1_4 hc1_4
 have HB := Aside0.mk (Below.refl w.heap.size w)
 have H : (if a0_5 = a1_5 then (if a0_6 = a1_6 then ((berthref20_sameTexts.f k l0_0 l1_0).bind fun t208 => (if t208 = true then ((berthref20_sameNums.f k l0_1 l1_1).bind fun t209 => (if t209 = true then (if (l0_2.length : Int) = (l1_2.length : Int) then (if (l0_3.length : Int) = (l1_3.length : Int) then (berthref20_Same.j0 k ((l0_4.length : Int) != (l1_4.length : Int)) l0_0 l0_1 l0_2 l0_3 l0_4 a0_5 a0_6 l1_0 l1_1 l1_2 l1_3 l1_4 a1_5 a1_6) else (berthref20_Same.j0 k true l0_0 l0_1 l0_2 l0_3 l0_4 a0_5 a0_6 l1_0 l1_1 l1_2 l1_3 l1_4 a1_5 a1_6)) else (berthref20_Same.j0 k true l0_0 l0_1 l0_2 l0_3 l0_4 a0_5 a0_6 l1_0 l1_1 l1_2 l1_3 l1_4 a1_5 a1_6)) else (berthref20_Same.j0 k true l0_0 l0_1 l0_2 l0_3 l0_4 a0_5 a0_6 l1_0 l1_1 l1_2 l1_3 l1_4 a1_5 a1_6))) else (berthref20_Same.j0 k true l0_0 l0_1 l0_2 l0_3 l0_4 a0_5 a0_6 l1_0 l1_1 l1_2 l1_3 l1_4 a1_5 a1_6))) else (berthref20_Same.j0 k true l0_0 l0_1 l0_2 l0_3 l0_4 a0_5 a0_6 l1_0 l1_1 l1_2 l1_3 l1_4 a1_5 a1_6)) else (berthref20_Same.j0 k true l0_0 l0_1 l0_2 l0_3 l0_4 a0_5 a0_6 l1_0 l1_1 l1_2 l1_3 l1_4 a1_5 a1_6)) = some r := h
 clear h
 have HC3 := Aside0.mk H
 clear H
 go_enter Try.func18, Try.ntmps18
 go_upto_region 1 with (first | ((with_reducible refine gate_dst (N := 2) rfl ?_); (try (refine gate_guard (by rfl) ?_; dsimp only)); refine box_event ?hg (N := 2) ?hd (cs := #[.slice A0_0 l0_0.length c0_0, .slice A0_1 l0_1.length c0_1, .slice A0_2 l0_2.length c0_2, .slice A0_3 l0_3.length c0_3, .slice A0_4 l0_4.length c0_4, .int .i64 a0_5, .int .i64 a0_6]) (t := 32) ?hr ?_; (case hd => rfl); (case hg => rfl); (case hr => first | (go_simp; done) | (go_simp; rfl)); intro gb206 hg w4 hbox hb; have n0_ := Aside0.mk (below_step (by repeat (first | (with_reducible first | exact HB.out | apply below_alloc | apply pw_below_drewN | apply below_drew1) | exact HB.out)) hb); have n1_ := Aside0.mk (hbox); have n2_ := Aside0.mk ((by rw [hg]; exact (below_size (by repeat (first | (with_reducible first | exact HB.out | apply below_alloc | apply pw_below_drewN | apply below_drew1) | exact HB.out))) : w.heap.size ≤ gb206)); have n3_ := Aside0.mk ((by rw [hg]; exact (below_size (by repeat (first | (with_reducible first | exact HB.out | apply below_alloc | apply pw_below_drewN | apply below_drew1) | exact HB.out))) : w.heap.size ≤ gb206)); clear HB; have HB := n0_; have BK206 := n1_; have GW206 := n2_; have GE206 := n3_; clear n0_ n1_ n2_ n3_; clear hb hbox hg) | ((with_reducible refine gate_dst (N := 3) rfl ?_); (try (refine gate_guard (by rfl) ?_; dsimp only)); refine box_event ?hg (N := 3) ?hd (cs := #[.slice A1_0 l1_0.length c1_0, .slice A1_1 l1_1.length c1_1, .slice A1_2 l1_2.length c1_2, .slice A1_3 l1_3.length c1_3, .slice A1_4 l1_4.length c1_4, .int .i64 a1_5, .int .i64 a1_6]) (t := 32) ?hr ?_; (case hd => rfl); (case hg => rfl); (case hr => first | (go_simp; done) | (go_simp; rfl)); intro gb207 hg w5 hbox hb; have n0_ := Aside0.mk (blk_below (g := gb206) (o := .cells #[.slice A0_0 l0_0.length c0_0, .slice A0_1 l0_1.length c0_1, .slice A0_2 l0_2.length c0_2, .slice A0_3 l0_3.length c0_3, .slice A0_4 l0_4.length c0_4, .int .i64 a0_5, .int .i64 a0_6] 32 (0, 0)) (by (with_reducible repeat (first | refine blk_drewN ?_ _ | refine blk_drew ?_ | refine blk_alloc ?_ _)); exact BK206.out) hb); have n1_ := Aside0.mk (below_step (by repeat (first | (with_reducible first | exact HB.out | apply below_alloc | apply pw_below_drewN | apply below_drew1 | refine below_set ?_ GE206.out) | exact HB.out)) hb); have n2_ := Aside0.mk (hbox); have n3_ := Aside0.mk ((by rw [hg]; exact (below_size (by repeat (first | (with_reducible first | exact HB.out | apply below_alloc | apply pw_below_drewN | apply below_drew1 | refine below_set ?_ GE206.out) | exact HB.out))) : w.heap.size ≤ gb207)); have n4_ := Aside0.mk ((by rw [hg]; exact (below_size (by repeat (first | (with_reducible first | exact HB.out | apply below_alloc | apply pw_below_drewN | apply below_drew1 | refine below_set ?_ GE206.out) | exact HB.out))) : w.heap.size ≤ gb207)); have n5_ := Aside0.mk ((by rw [hg]; exact Nat.ne_of_lt (blk_lt (g := gb206) (o := .cells #[.slice A0_0 l0_0.length c0_0, .slice A0_1 l0_1.length c0_1, .slice A0_2 l0_2.length c0_2, .slice A0_3 l0_3.length c0_3, .slice A0_4 l0_4.length c0_4, .int .i64 a0_5, .int .i64 a0_6] 32 (0, 0)) (by (with_reducible repeat (first | refine blk_drewN ?_ _ | refine blk_drew ?_ | refine blk_alloc ?_ _)); exact BK206.out)) : gb206 ≠ gb207)); have n6_ := Aside0.mk ((by rw [hg]; exact Nat.ne_of_gt (blk_lt (g := gb206) (o := .cells #[.slice A0_0 l0_0.length c0_0, .slice A0_1 l0_1.length c0_1, .slice A0_2 l0_2.length c0_2, .slice A0_3 l0_3.length c0_3, .slice A0_4 l0_4.length c0_4, .int .i64 a0_5, .int .i64 a0_6] 32 (0, 0)) (by (with_reducible repeat (first | refine blk_drewN ?_ _ | refine blk_drew ?_ | refine blk_alloc ?_ _)); exact BK206.out)) : gb207 ≠ gb206)); clear BK206; clear HB; have BK206 := n0_; have HB := n1_; have BK207 := n2_; have GW207 := n3_; have GE207 := n4_; have NB206_207 := n5_; have NB207_206 := n6_; clear n0_ n1_ n2_ n3_ n4_ n5_ n6_; clear hb hbox hg))
 repeat (go_quiet (first | ((with_reducible refine gate_dst (N := 2) rfl ?_); (try (refine gate_guard (by rfl) ?_; dsimp only)); refine box_event ?hg (N := 2) ?hd (cs := #[.slice A0_0 l0_0.length c0_0, .slice A0_1 l0_1.length c0_1, .slice A0_2 l0_2.length c0_2, .slice A0_3 l0_3.length c0_3, .slice A0_4 l0_4.length c0_4, .int .i64 a0_5, .int .i64 a0_6]) (t := 32) ?hr ?_; (case hd => rfl); (case hg => rfl); (case hr => first | (go_simp; done) | (go_simp; rfl)); intro gb206 hg w4 hbox hb; have n0_ := Aside0.mk (below_step (by repeat (first | (with_reducible first | exact HB.out | apply below_alloc | apply pw_below_drewN | apply below_drew1) | exact HB.out)) hb); have n1_ := Aside0.mk (hbox); have n2_ := Aside0.mk ((by rw [hg]; exact (below_size (by repeat (first | (with_reducible first | exact HB.out | apply below_alloc | apply pw_below_drewN | apply below_drew1) | exact HB.out))) : w.heap.size ≤ gb206)); have n3_ := Aside0.mk ((by rw [hg]; exact (below_size (by repeat (first | (with_reducible first | exact HB.out | apply below_alloc | apply pw_below_drewN | apply below_drew1) | exact HB.out))) : w.heap.size ≤ gb206)); clear HB; have HB := n0_; have BK206 := n1_; have GW206 := n2_; have GE206 := n3_; clear n0_ n1_ n2_ n3_; clear hb hbox hg) | ((with_reducible refine gate_dst (N := 3) rfl ?_); (try (refine gate_guard (by rfl) ?_; dsimp only)); refine box_event ?hg (N := 3) ?hd (cs := #[.slice A1_0 l1_0.length c1_0, .slice A1_1 l1_1.length c1_1, .slice A1_2 l1_2.length c1_2, .slice A1_3 l1_3.length c1_3, .slice A1_4 l1_4.length c1_4, .int .i64 a1_5, .int .i64 a1_6]) (t := 32) ?hr ?_; (case hd => rfl); (case hg => rfl); (case hr => first | (go_simp; done) | (go_simp; rfl)); intro gb207 hg w5 hbox hb; have n0_ := Aside0.mk (blk_below (g := gb206) (o := .cells #[.slice A0_0 l0_0.length c0_0, .slice A0_1 l0_1.length c0_1, .slice A0_2 l0_2.length c0_2, .slice A0_3 l0_3.length c0_3, .slice A0_4 l0_4.length c0_4, .int .i64 a0_5, .int .i64 a0_6] 32 (0, 0)) (by (with_reducible repeat (first | refine blk_drewN ?_ _ | refine blk_drew ?_ | refine blk_alloc ?_ _)); exact BK206.out) hb); have n1_ := Aside0.mk (below_step (by repeat (first | (with_reducible first | exact HB.out | apply below_alloc | apply pw_below_drewN | apply below_drew1 | refine below_set ?_ GE206.out) | exact HB.out)) hb); have n2_ := Aside0.mk (hbox); have n3_ := Aside0.mk ((by rw [hg]; exact (below_size (by repeat (first | (with_reducible first | exact HB.out | apply below_alloc | apply pw_below_drewN | apply below_drew1 | refine below_set ?_ GE206.out) | exact HB.out))) : w.heap.size ≤ gb207)); have n4_ := Aside0.mk ((by rw [hg]; exact (below_size (by repeat (first | (with_reducible first | exact HB.out | apply below_alloc | apply pw_below_drewN | apply below_drew1 | refine below_set ?_ GE206.out) | exact HB.out))) : w.heap.size ≤ gb207)); have n5_ := Aside0.mk ((by rw [hg]; exact Nat.ne_of_lt (blk_lt (g := gb206) (o := .cells #[.slice A0_0 l0_0.length c0_0, .slice A0_1 l0_1.length c0_1, .slice A0_2 l0_2.length c0_2, .slice A0_3 l0_3.length c0_3, .slice A0_4 l0_4.length c0_4, .int .i64 a0_5, .int .i64 a0_6] 32 (0, 0)) (by (with_reducible repeat (first | refine blk_drewN ?_ _ | refine blk_drew ?_ | refine blk_alloc ?_ _)); exact BK206.out)) : gb206 ≠ gb207)); have n6_ := Aside0.mk ((by rw [hg]; exact Nat.ne_of_gt (blk_lt (g := gb206) (o := .cells #[.slice A0_0 l0_0.length c0_0, .slice A0_1 l0_1.length c0_1, .slice A0_2 l0_2.length c0_2, .slice A0_3 l0_3.length c0_3, .slice A0_4 l0_4.length c0_4, .int .i64 a0_5, .int .i64 a0_6] 32 (0, 0)) (by (with_reducible repeat (first | refine blk_drewN ?_ _ | refine blk_drew ?_ | refine blk_alloc ?_ _)); exact BK206.out)) : gb207 ≠ gb206)); clear BK206; clear HB; have BK206 := n0_; have HB := n1_; have BK207 := n2_; have GW207 := n3_; have GE207 := n4_; have NB206_207 := n5_; have NB207_206 := n6_; clear n0_ n1_ n2_ n3_ n4_ n5_ n6_; clear hb hbox hg)); go_upto_region 1 with (first | ((with_reducible refine gate_dst (N := 2) rfl ?_); (try (refine gate_guard (by rfl) ?_; dsimp only)); refine box_event ?hg (N := 2) ?hd (cs := #[.slice A0_0 l0_0.length c0_0, .slice A0_1 l0_1.length c0_1, .slice A0_2 l0_2.length c0_2, .slice A0_3 l0_3.length c0_3, .slice A0_4 l0_4.length c0_4, .int .i64 a0_5, .int .i64 a0_6]) (t := 32) ?hr ?_; (case hd => rfl); (case hg => rfl); (case hr => first | (go_simp; done) | (go_simp; rfl)); intro gb206 hg w4 hbox hb; have n0_ := Aside0.mk (below_step (by repeat (first | (with_reducible first | exact HB.out | apply below_alloc | apply pw_below_drewN | apply below_drew1) | exact HB.out)) hb); have n1_ := Aside0.mk (hbox); have n2_ := Aside0.mk ((by rw [hg]; exact (below_size (by repeat (first | (with_reducible first | exact HB.out | apply below_alloc | apply pw_below_drewN | apply below_drew1) | exact HB.out))) : w.heap.size ≤ gb206)); have n3_ := Aside0.mk ((by rw [hg]; exact (below_size (by repeat (first | (with_reducible first | exact HB.out | apply below_alloc | apply pw_below_drewN | apply below_drew1) | exact HB.out))) : w.heap.size ≤ gb206)); clear HB; have HB := n0_; have BK206 := n1_; have GW206 := n2_; have GE206 := n3_; clear n0_ n1_ n2_ n3_; clear hb hbox hg) | ((with_reducible refine gate_dst (N := 3) rfl ?_); (try (refine gate_guard (by rfl) ?_; dsimp only)); refine box_event ?hg (N := 3) ?hd (cs := #[.slice A1_0 l1_0.length c1_0, .slice A1_1 l1_1.length c1_1, .slice A1_2 l1_2.length c1_2, .slice A1_3 l1_3.length c1_3, .slice A1_4 l1_4.length c1_4, .int .i64 a1_5, .int .i64 a1_6]) (t := 32) ?hr ?_; (case hd => rfl); (case hg => rfl); (case hr => first | (go_simp; done) | (go_simp; rfl)); intro gb207 hg w5 hbox hb; have n0_ := Aside0.mk (blk_below (g := gb206) (o := .cells #[.slice A0_0 l0_0.length c0_0, .slice A0_1 l0_1.length c0_1, .slice A0_2 l0_2.length c0_2, .slice A0_3 l0_3.length c0_3, .slice A0_4 l0_4.length c0_4, .int .i64 a0_5, .int .i64 a0_6] 32 (0, 0)) (by (with_reducible repeat (first | refine blk_drewN ?_ _ | refine blk_drew ?_ | refine blk_alloc ?_ _)); exact BK206.out) hb); have n1_ := Aside0.mk (below_step (by repeat (first | (with_reducible first | exact HB.out | apply below_alloc | apply pw_below_drewN | apply below_drew1 | refine below_set ?_ GE206.out) | exact HB.out)) hb); have n2_ := Aside0.mk (hbox); have n3_ := Aside0.mk ((by rw [hg]; exact (below_size (by repeat (first | (with_reducible first | exact HB.out | apply below_alloc | apply pw_below_drewN | apply below_drew1 | refine below_set ?_ GE206.out) | exact HB.out))) : w.heap.size ≤ gb207)); have n4_ := Aside0.mk ((by rw [hg]; exact (below_size (by repeat (first | (with_reducible first | exact HB.out | apply below_alloc | apply pw_below_drewN | apply below_drew1 | refine below_set ?_ GE206.out) | exact HB.out))) : w.heap.size ≤ gb207)); have n5_ := Aside0.mk ((by rw [hg]; exact Nat.ne_of_lt (blk_lt (g := gb206) (o := .cells #[.slice A0_0 l0_0.length c0_0, .slice A0_1 l0_1.length c0_1, .slice A0_2 l0_2.length c0_2, .slice A0_3 l0_3.length c0_3, .slice A0_4 l0_4.length c0_4, .int .i64 a0_5, .int .i64 a0_6] 32 (0, 0)) (by (with_reducible repeat (first | refine blk_drewN ?_ _ | refine blk_drew ?_ | refine blk_alloc ?_ _)); exact BK206.out)) : gb206 ≠ gb207)); have n6_ := Aside0.mk ((by rw [hg]; exact Nat.ne_of_gt (blk_lt (g := gb206) (o := .cells #[.slice A0_0 l0_0.length c0_0, .slice A0_1 l0_1.length c0_1, .slice A0_2 l0_2.length c0_2, .slice A0_3 l0_3.length c0_3, .slice A0_4 l0_4.length c0_4, .int .i64 a0_5, .int .i64 a0_6] 32 (0, 0)) (by (with_reducible repeat (first | refine blk_drewN ?_ _ | refine blk_drew ?_ | refine blk_alloc ?_ _)); exact BK206.out)) : gb207 ≠ gb206)); clear BK206; clear HB; have BK206 := n0_; have HB := n1_; have BK207 := n2_; have GW207 := n3_; have GE207 := n4_; have NB206_207 := n5_; have NB207_206 := n6_; clear n0_ n1_ n2_ n3_ n4_ n5_ n6_; clear hb hbox hg)))
 (try simp only [Act.put, List.setIfInBounds_toArray, List.set_cons_zero, List.set_cons_succ])
 go_cut [62] (fun v62 wc => ∃ (kq : Nat) (x62_2 : Bool), v62 = .bool x62_2 ∧ Aside0 (berthref20_Same.j0 kq x62_2 l0_0 l0_1 l0_2 l0_3 l0_4 a0_5 a0_6 l1_0 l1_1 l1_2 l1_3 l1_4 a1_5 a1_6 = some r) ∧ Aside0 (kq ≤ k) ∧ Aside0 (wc.heap[gb206]? = some (.cells #[(.slice A0_0 l0_0.length c0_0), (.slice A0_1 l0_1.length c0_1), (.slice A0_2 l0_2.length c0_2), (.slice A0_3 l0_3.length c0_3), (.slice A0_4 l0_4.length c0_4), .int .i64 a0_5, .int .i64 a0_6] 32 (0, 0))) ∧ Aside0 (wc.heap[gb207]? = some (.cells #[(.slice A1_0 l1_0.length c1_0), (.slice A1_1 l1_1.length c1_1), (.slice A1_2 l1_2.length c1_2), (.slice A1_3 l1_3.length c1_3), (.slice A1_4 l1_4.length c1_4), .int .i64 a1_5, .int .i64 a1_6] 32 (0, 0))) ∧ Aside0 (Below w.heap.size w wc))
 case first =>
  have H := HC3.out
  clear HC3
  by_cases c6 : a0_5 = a1_5
  ·
   rw [if_pos c6] at H
   have c6b0 : (a0_5 == a1_5) = true := beq_iff_eq.mpr c6
   have c6b1 : (a0_5 != a1_5) = false := bne_eq_false_iff_eq.mpr c6
   clear c6
   (first | rw [c6b0] | (simp only [i64_w, i32_w]; rw [c6b0]) | skip)
   by_cases c7 : a0_6 = a1_6
   ·
    rw [if_pos c7] at H
    have c7b0 : (a0_6 == a1_6) = true := beq_iff_eq.mpr c7
    have c7b1 : (a0_6 != a1_6) = false := bne_eq_false_iff_eq.mpr c7
    clear c7
    replace H := Option.bind_eq_some_iff.mp H
    obtain ⟨t208, A80, H⟩ := H
    replace H : (if t208 = true then ((berthref20_sameNums.f k l0_1 l1_1).bind fun t209 => (if t209 = true then (if (l0_2.length : Int) = (l1_2.length : Int) then (if (l0_3.length : Int) = (l1_3.length : Int) then (berthref20_Same.j0 k ((l0_4.length : Int) != (l1_4.length : Int)) l0_0 l0_1 l0_2 l0_3 l0_4 a0_5 a0_6 l1_0 l1_1 l1_2 l1_3 l1_4 a1_5 a1_6) else (berthref20_Same.j0 k true l0_0 l0_1 l0_2 l0_3 l0_4 a0_5 a0_6 l1_0 l1_1 l1_2 l1_3 l1_4 a1_5 a1_6)) else (berthref20_Same.j0 k true l0_0 l0_1 l0_2 l0_3 l0_4 a0_5 a0_6 l1_0 l1_1 l1_2 l1_3 l1_4 a1_5 a1_6)) else (berthref20_Same.j0 k true l0_0 l0_1 l0_2 l0_3 l0_4 a0_5 a0_6 l1_0 l1_1 l1_2 l1_3 l1_4 a1_5 a1_6))) else (berthref20_Same.j0 k true l0_0 l0_1 l0_2 l0_3 l0_4 a0_5 a0_6 l1_0 l1_1 l1_2 l1_3 l1_4 a1_5 a1_6)) = some r := H
    have A8 := Aside0.mk A80
    clear A80
    by_cases c9 : t208 = true
    ·
     subst c9
     have H1 : ((berthref20_sameNums.f k l0_1 l1_1).bind fun t209 => (if t209 = true then (if (l0_2.length : Int) = (l1_2.length : Int) then (if (l0_3.length : Int) = (l1_3.length : Int) then (berthref20_Same.j0 k ((l0_4.length : Int) != (l1_4.length : Int)) l0_0 l0_1 l0_2 l0_3 l0_4 a0_5 a0_6 l1_0 l1_1 l1_2 l1_3 l1_4 a1_5 a1_6) else (berthref20_Same.j0 k true l0_0 l0_1 l0_2 l0_3 l0_4 a0_5 a0_6 l1_0 l1_1 l1_2 l1_3 l1_4 a1_5 a1_6)) else (berthref20_Same.j0 k true l0_0 l0_1 l0_2 l0_3 l0_4 a0_5 a0_6 l1_0 l1_1 l1_2 l1_3 l1_4 a1_5 a1_6)) else (berthref20_Same.j0 k true l0_0 l0_1 l0_2 l0_3 l0_4 a0_5 a0_6 l1_0 l1_1 l1_2 l1_3 l1_4 a1_5 a1_6))) = some r := by rw [if_pos rfl] at H; exact H
     clear H
     have H := H1
     clear H1
     replace H := Option.bind_eq_some_iff.mp H
     obtain ⟨t209, A100, H⟩ := H
     replace H : (if t209 = true then (if (l0_2.length : Int) = (l1_2.length : Int) then (if (l0_3.length : Int) = (l1_3.length : Int) then (berthref20_Same.j0 k ((l0_4.length : Int) != (l1_4.length : Int)) l0_0 l0_1 l0_2 l0_3 l0_4 a0_5 a0_6 l1_0 l1_1 l1_2 l1_3 l1_4 a1_5 a1_6) else (berthref20_Same.j0 k true l0_0 l0_1 l0_2 l0_3 l0_4 a0_5 a0_6 l1_0 l1_1 l1_2 l1_3 l1_4 a1_5 a1_6)) else (berthref20_Same.j0 k true l0_0 l0_1 l0_2 l0_3 l0_4 a0_5 a0_6 l1_0 l1_1 l1_2 l1_3 l1_4 a1_5 a1_6)) else (berthref20_Same.j0 k true l0_0 l0_1 l0_2 l0_3 l0_4 a0_5 a0_6 l1_0 l1_1 l1_2 l1_3 l1_4 a1_5 a1_6)) = some r := H
     have A10 := Aside0.mk A100
     clear A100
     by_cases c11 : t209 = true
     ·
      subst c11
      have H1 : (if (l0_2.length : Int) = (l1_2.length : Int) then (if (l0_3.length : Int) = (l1_3.length : Int) then (berthref20_Same.j0 k ((l0_4.length : Int) != (l1_4.length : Int)) l0_0 l0_1 l0_2 l0_3 l0_4 a0_5 a0_6 l1_0 l1_1 l1_2 l1_3 l1_4 a1_5 a1_6) else (berthref20_Same.j0 k true l0_0 l0_1 l0_2 l0_3 l0_4 a0_5 a0_6 l1_0 l1_1 l1_2 l1_3 l1_4 a1_5 a1_6)) else (berthref20_Same.j0 k true l0_0 l0_1 l0_2 l0_3 l0_4 a0_5 a0_6 l1_0 l1_1 l1_2 l1_3 l1_4 a1_5 a1_6)) = some r := by rw [if_pos rfl] at H; exact H
      clear H
      have H := H1
      clear H1
      by_cases c12 : (l0_2.length : Int) = (l1_2.length : Int)
      ·
       rw [if_pos c12] at H
       have c12b0 : ((l0_2.length : Int) == (l1_2.length : Int)) = true := beq_iff_eq.mpr c12
       have c12b1 : ((l0_2.length : Int) != (l1_2.length : Int)) = false := bne_eq_false_iff_eq.mpr c12
       have c12b2 : (l0_2.length == l1_2.length) = true := by first | simpa using c12 | (simp at c12 ⊢; omega)
       clear c12
       by_cases c13 : (l0_3.length : Int) = (l1_3.length : Int)
       ·
        rw [if_pos c13] at H
        have c13b0 : ((l0_3.length : Int) == (l1_3.length : Int)) = true := beq_iff_eq.mpr c13
        have c13b1 : ((l0_3.length : Int) != (l1_3.length : Int)) = false := bne_eq_false_iff_eq.mpr c13
        have c13b2 : (l0_3.length == l1_3.length) = true := by first | simpa using c13 | (simp at c13 ⊢; omega)
        clear c13
        have H' := Aside0.mk H
        clear H
        have hnb14 := NB206_207.out
        have hnc14 := NB207_206.out
        have hcz15_0 : w5.cell? ⟨gb206, 0, none⟩ = some (.slice A0_0 l0_0.length c0_0) := (blk_cell BK206.out 0).trans rfl
        have hcz15_1 : w5.cell? ⟨gb206, 1, none⟩ = some (.slice A0_1 l0_1.length c0_1) := (blk_cell BK206.out 1).trans rfl
        have hcz15_2 : w5.cell? ⟨gb206, 2, none⟩ = some (.slice A0_2 l0_2.length c0_2) := (blk_cell BK206.out 2).trans rfl
        have hcz15_3 : w5.cell? ⟨gb206, 3, none⟩ = some (.slice A0_3 l0_3.length c0_3) := (blk_cell BK206.out 3).trans rfl
        have hcz15_4 : w5.cell? ⟨gb206, 4, none⟩ = some (.slice A0_4 l0_4.length c0_4) := (blk_cell BK206.out 4).trans rfl
        have hcz15_5 : w5.cell? ⟨gb206, 5, none⟩ = some (.int .i64 a0_5) := (blk_cell BK206.out 5).trans rfl
        have hcz15_6 : w5.cell? ⟨gb206, 6, none⟩ = some (.int .i64 a0_6) := (blk_cell BK206.out 6).trans rfl
        have hfz15_0 := blk_frozen BK206.out 0
        have hfz15_1 := blk_frozen BK206.out 1
        have hfz15_2 := blk_frozen BK206.out 2
        have hfz15_3 := blk_frozen BK206.out 3
        have hfz15_4 := blk_frozen BK206.out 4
        have hfz15_5 := blk_frozen BK206.out 5
        have hfz15_6 := blk_frozen BK206.out 6
        have hcz16_0 : w5.cell? ⟨gb207, 0, none⟩ = some (.slice A1_0 l1_0.length c1_0) := (blk_cell BK207.out 0).trans rfl
        have hcz16_1 : w5.cell? ⟨gb207, 1, none⟩ = some (.slice A1_1 l1_1.length c1_1) := (blk_cell BK207.out 1).trans rfl
        have hcz16_2 : w5.cell? ⟨gb207, 2, none⟩ = some (.slice A1_2 l1_2.length c1_2) := (blk_cell BK207.out 2).trans rfl
        have hcz16_3 : w5.cell? ⟨gb207, 3, none⟩ = some (.slice A1_3 l1_3.length c1_3) := (blk_cell BK207.out 3).trans rfl
        have hcz16_4 : w5.cell? ⟨gb207, 4, none⟩ = some (.slice A1_4 l1_4.length c1_4) := (blk_cell BK207.out 4).trans rfl
        have hcz16_5 : w5.cell? ⟨gb207, 5, none⟩ = some (.int .i64 a1_5) := (blk_cell BK207.out 5).trans rfl
        have hcz16_6 : w5.cell? ⟨gb207, 6, none⟩ = some (.int .i64 a1_6) := (blk_cell BK207.out 6).trans rfl
        have hfz16_0 := blk_frozen BK207.out 0
        have hfz16_1 := blk_frozen BK207.out 1
        have hfz16_2 := blk_frozen BK207.out 2
        have hfz16_3 := blk_frozen BK207.out 3
        have hfz16_4 := blk_frozen BK207.out 4
        have hfz16_5 := blk_frozen BK207.out 5
        have hfz16_6 := blk_frozen BK207.out 6
        go_wp2_with (first | (go_at_call 50; (with_reducible refine (berthref20_sameTexts.calls k _ _ l0_0 _ _ l1_0 true _ ?side1 ?side2 ?side3 ?side4 A8.out).mono ?_); (case side1 => repeat (first | exact (Kd.C_below HR0_0.out HB.out) | (with_reducible refine Kd.C_alloc ?_ _) | (with_reducible refine Kd.C_drewN ?_ _) | (with_reducible refine Kd.C_drew ?_))); (case side2 => exact HC0_0.out); (case side3 => repeat (first | exact (Kd.C_below HR1_0.out HB.out) | (with_reducible refine Kd.C_alloc ?_ _) | (with_reducible refine Kd.C_drewN ?_ _) | (with_reducible refine Kd.C_drew ?_))); (case side4 => exact HC1_0.out); rintro e w' ⟨rfl, ⟨nd, rfl⟩⟩; (try first | exact ⟨rfl, _, World.drewN_drewN _ _ _⟩ | exact ⟨rfl, _, Eq.trans (World.drewN_drewN _ _ _) (congrArg (World.drewN _) (Nat.add_assoc _ _ _))⟩)) | (go_at_call 51; (with_reducible refine (berthref20_sameNums.calls k _ _ l0_1 _ _ l1_1 true _ ?side1 ?side2 ?side3 ?side4 A10.out).mono ?_); (case side1 => repeat (first | exact (Kd.C_below HR0_1.out (by repeat (first | (with_reducible first | exact HB.out | apply below_alloc | apply pw_below_drewN | apply below_drew1 | refine below_set ?_ GE206.out | refine below_set ?_ GE207.out) | exact HB.out))) | (with_reducible refine Kd.C_alloc ?_ _) | (with_reducible refine Kd.C_drewN ?_ _) | (with_reducible refine Kd.C_drew ?_))); (case side2 => exact HC0_1.out); (case side3 => repeat (first | exact (Kd.C_below HR1_1.out (by repeat (first | (with_reducible first | exact HB.out | apply below_alloc | apply pw_below_drewN | apply below_drew1 | refine below_set ?_ GE206.out | refine below_set ?_ GE207.out) | exact HB.out))) | (with_reducible refine Kd.C_alloc ?_ _) | (with_reducible refine Kd.C_drewN ?_ _) | (with_reducible refine Kd.C_drew ?_))); (case side4 => exact HC1_1.out); rintro e w' ⟨rfl, ⟨nd, rfl⟩⟩; (try first | exact ⟨rfl, _, World.drewN_drewN _ _ _⟩ | exact ⟨rfl, _, Eq.trans (World.drewN_drewN _ _ _) (congrArg (World.drewN _) (Nat.add_assoc _ _ _))⟩)))
        repeat (go_quiet (first | (go_at_call 50; (with_reducible refine (berthref20_sameTexts.calls k _ _ l0_0 _ _ l1_0 true _ ?side1 ?side2 ?side3 ?side4 A8.out).mono ?_); (case side1 => repeat (first | exact (Kd.C_below HR0_0.out HB.out) | (with_reducible refine Kd.C_alloc ?_ _) | (with_reducible refine Kd.C_drewN ?_ _) | (with_reducible refine Kd.C_drew ?_))); (case side2 => exact HC0_0.out); (case side3 => repeat (first | exact (Kd.C_below HR1_0.out HB.out) | (with_reducible refine Kd.C_alloc ?_ _) | (with_reducible refine Kd.C_drewN ?_ _) | (with_reducible refine Kd.C_drew ?_))); (case side4 => exact HC1_0.out); rintro e w' ⟨rfl, ⟨nd, rfl⟩⟩; (try first | exact ⟨rfl, _, World.drewN_drewN _ _ _⟩ | exact ⟨rfl, _, Eq.trans (World.drewN_drewN _ _ _) (congrArg (World.drewN _) (Nat.add_assoc _ _ _))⟩)) | (go_at_call 51; (with_reducible refine (berthref20_sameNums.calls k _ _ l0_1 _ _ l1_1 true _ ?side1 ?side2 ?side3 ?side4 A10.out).mono ?_); (case side1 => repeat (first | exact (Kd.C_below HR0_1.out (by repeat (first | (with_reducible first | exact HB.out | apply below_alloc | apply pw_below_drewN | apply below_drew1 | refine below_set ?_ GE206.out | refine below_set ?_ GE207.out) | exact HB.out))) | (with_reducible refine Kd.C_alloc ?_ _) | (with_reducible refine Kd.C_drewN ?_ _) | (with_reducible refine Kd.C_drew ?_))); (case side2 => exact HC0_1.out); (case side3 => repeat (first | exact (Kd.C_below HR1_1.out (by repeat (first | (with_reducible first | exact HB.out | apply below_alloc | apply pw_below_drewN | apply below_drew1 | refine below_set ?_ GE206.out | refine below_set ?_ GE207.out) | exact HB.out))) | (with_reducible refine Kd.C_alloc ?_ _) | (with_reducible refine Kd.C_drewN ?_ _) | (with_reducible refine Kd.C_drew ?_))); (case side4 => exact HC1_1.out); rintro e w' ⟨rfl, ⟨nd, rfl⟩⟩; (try first | exact ⟨rfl, _, World.drewN_drewN _ _ _⟩ | exact ⟨rfl, _, Eq.trans (World.drewN_drewN _ _ _) (congrArg (World.drewN _) (Nat.add_assoc _ _ _))⟩))); try go_wp2_with (first | (go_at_call 50; (with_reducible refine (berthref20_sameTexts.calls k _ _ l0_0 _ _ l1_0 true _ ?side1 ?side2 ?side3 ?side4 A8.out).mono ?_); (case side1 => repeat (first | exact (Kd.C_below HR0_0.out HB.out) | (with_reducible refine Kd.C_alloc ?_ _) | (with_reducible refine Kd.C_drewN ?_ _) | (with_reducible refine Kd.C_drew ?_))); (case side2 => exact HC0_0.out); (case side3 => repeat (first | exact (Kd.C_below HR1_0.out HB.out) | (with_reducible refine Kd.C_alloc ?_ _) | (with_reducible refine Kd.C_drewN ?_ _) | (with_reducible refine Kd.C_drew ?_))); (case side4 => exact HC1_0.out); rintro e w' ⟨rfl, ⟨nd, rfl⟩⟩; (try first | exact ⟨rfl, _, World.drewN_drewN _ _ _⟩ | exact ⟨rfl, _, Eq.trans (World.drewN_drewN _ _ _) (congrArg (World.drewN _) (Nat.add_assoc _ _ _))⟩)) | (go_at_call 51; (with_reducible refine (berthref20_sameNums.calls k _ _ l0_1 _ _ l1_1 true _ ?side1 ?side2 ?side3 ?side4 A10.out).mono ?_); (case side1 => repeat (first | exact (Kd.C_below HR0_1.out (by repeat (first | (with_reducible first | exact HB.out | apply below_alloc | apply pw_below_drewN | apply below_drew1 | refine below_set ?_ GE206.out | refine below_set ?_ GE207.out) | exact HB.out))) | (with_reducible refine Kd.C_alloc ?_ _) | (with_reducible refine Kd.C_drewN ?_ _) | (with_reducible refine Kd.C_drew ?_))); (case side2 => exact HC0_1.out); (case side3 => repeat (first | exact (Kd.C_below HR1_1.out (by repeat (first | (with_reducible first | exact HB.out | apply below_alloc | apply pw_below_drewN | apply below_drew1 | refine below_set ?_ GE206.out | refine below_set ?_ GE207.out) | exact HB.out))) | (with_reducible refine Kd.C_alloc ?_ _) | (with_reducible refine Kd.C_drewN ?_ _) | (with_reducible refine Kd.C_drew ?_))); (case side4 => exact HC1_1.out); rintro e w' ⟨rfl, ⟨nd, rfl⟩⟩; (try first | exact ⟨rfl, _, World.drewN_drewN _ _ _⟩ | exact ⟨rfl, _, Eq.trans (World.drewN_drewN _ _ _) (congrArg (World.drewN _) (Nat.add_assoc _ _ _))⟩))))
        go_meet
        case rel => exact ⟨_, (((l0_4.length : Int) != (l1_4.length : Int))), (by first | rfl | (simp; done) | (simp [*]; done) | (simp only [i64_w]; done) | (simp [i64_w, Int.tdiv_eq_ediv_of_nonneg]; done)), H', ⟨by first | omega | exact Nat.le_refl _⟩, ⟨by (with_reducible repeat (first | refine blk_drewN ?_ _ | refine blk_drew ?_ | refine blk_alloc ?_ _)); exact BK206.out⟩, ⟨by (with_reducible repeat (first | refine blk_drewN ?_ _ | refine blk_drew ?_ | refine blk_alloc ?_ _)); exact BK207.out⟩, ⟨by repeat (first | (with_reducible first | exact HB.out | apply below_alloc | apply pw_below_drewN | apply below_drew1 | refine below_set ?_ GE206.out | refine below_set ?_ GE207.out) | exact HB.out)⟩⟩
       ·
        rw [if_neg c13] at H
        have c13b0 : ((l0_3.length : Int) == (l1_3.length : Int)) = false := beq_eq_false_iff_ne.mpr c13
        have c13b1 : ((l0_3.length : Int) != (l1_3.length : Int)) = true := bne_iff_ne.mpr c13
        have c13b2 : (l0_3.length == l1_3.length) = false := by first | simpa using c13 | (simp at c13 ⊢; omega)
        have H' := Aside0.mk H
        clear H
        have hnb17 := NB206_207.out
        have hnc17 := NB207_206.out
        have hcz18_0 : w5.cell? ⟨gb206, 0, none⟩ = some (.slice A0_0 l0_0.length c0_0) := (blk_cell BK206.out 0).trans rfl
        have hcz18_1 : w5.cell? ⟨gb206, 1, none⟩ = some (.slice A0_1 l0_1.length c0_1) := (blk_cell BK206.out 1).trans rfl
        have hcz18_2 : w5.cell? ⟨gb206, 2, none⟩ = some (.slice A0_2 l0_2.length c0_2) := (blk_cell BK206.out 2).trans rfl
        have hcz18_3 : w5.cell? ⟨gb206, 3, none⟩ = some (.slice A0_3 l0_3.length c0_3) := (blk_cell BK206.out 3).trans rfl
        have hcz18_4 : w5.cell? ⟨gb206, 4, none⟩ = some (.slice A0_4 l0_4.length c0_4) := (blk_cell BK206.out 4).trans rfl
        have hcz18_5 : w5.cell? ⟨gb206, 5, none⟩ = some (.int .i64 a0_5) := (blk_cell BK206.out 5).trans rfl
        have hcz18_6 : w5.cell? ⟨gb206, 6, none⟩ = some (.int .i64 a0_6) := (blk_cell BK206.out 6).trans rfl
        have hfz18_0 := blk_frozen BK206.out 0
        have hfz18_1 := blk_frozen BK206.out 1
        have hfz18_2 := blk_frozen BK206.out 2
        have hfz18_3 := blk_frozen BK206.out 3
        have hfz18_4 := blk_frozen BK206.out 4
        have hfz18_5 := blk_frozen BK206.out 5
        have hfz18_6 := blk_frozen BK206.out 6
        have hcz19_0 : w5.cell? ⟨gb207, 0, none⟩ = some (.slice A1_0 l1_0.length c1_0) := (blk_cell BK207.out 0).trans rfl
        have hcz19_1 : w5.cell? ⟨gb207, 1, none⟩ = some (.slice A1_1 l1_1.length c1_1) := (blk_cell BK207.out 1).trans rfl
        have hcz19_2 : w5.cell? ⟨gb207, 2, none⟩ = some (.slice A1_2 l1_2.length c1_2) := (blk_cell BK207.out 2).trans rfl
        have hcz19_3 : w5.cell? ⟨gb207, 3, none⟩ = some (.slice A1_3 l1_3.length c1_3) := (blk_cell BK207.out 3).trans rfl
        have hcz19_4 : w5.cell? ⟨gb207, 4, none⟩ = some (.slice A1_4 l1_4.length c1_4) := (blk_cell BK207.out 4).trans rfl
        have hcz19_5 : w5.cell? ⟨gb207, 5, none⟩ = some (.int .i64 a1_5) := (blk_cell BK207.out 5).trans rfl
        have hcz19_6 : w5.cell? ⟨gb207, 6, none⟩ = some (.int .i64 a1_6) := (blk_cell BK207.out 6).trans rfl
        have hfz19_0 := blk_frozen BK207.out 0
        have hfz19_1 := blk_frozen BK207.out 1
        have hfz19_2 := blk_frozen BK207.out 2
        have hfz19_3 := blk_frozen BK207.out 3
        have hfz19_4 := blk_frozen BK207.out 4
        have hfz19_5 := blk_frozen BK207.out 5
        have hfz19_6 := blk_frozen BK207.out 6
        go_wp2_with (first | (go_at_call 50; (with_reducible refine (berthref20_sameTexts.calls k _ _ l0_0 _ _ l1_0 true _ ?side1 ?side2 ?side3 ?side4 A8.out).mono ?_); (case side1 => repeat (first | exact (Kd.C_below HR0_0.out HB.out) | (with_reducible refine Kd.C_alloc ?_ _) | (with_reducible refine Kd.C_drewN ?_ _) | (with_reducible refine Kd.C_drew ?_))); (case side2 => exact HC0_0.out); (case side3 => repeat (first | exact (Kd.C_below HR1_0.out HB.out) | (with_reducible refine Kd.C_alloc ?_ _) | (with_reducible refine Kd.C_drewN ?_ _) | (with_reducible refine Kd.C_drew ?_))); (case side4 => exact HC1_0.out); rintro e w' ⟨rfl, ⟨nd, rfl⟩⟩; (try first | exact ⟨rfl, _, World.drewN_drewN _ _ _⟩ | exact ⟨rfl, _, Eq.trans (World.drewN_drewN _ _ _) (congrArg (World.drewN _) (Nat.add_assoc _ _ _))⟩)) | (go_at_call 51; (with_reducible refine (berthref20_sameNums.calls k _ _ l0_1 _ _ l1_1 true _ ?side1 ?side2 ?side3 ?side4 A10.out).mono ?_); (case side1 => repeat (first | exact (Kd.C_below HR0_1.out (by repeat (first | (with_reducible first | exact HB.out | apply below_alloc | apply pw_below_drewN | apply below_drew1 | refine below_set ?_ GE206.out | refine below_set ?_ GE207.out) | exact HB.out))) | (with_reducible refine Kd.C_alloc ?_ _) | (with_reducible refine Kd.C_drewN ?_ _) | (with_reducible refine Kd.C_drew ?_))); (case side2 => exact HC0_1.out); (case side3 => repeat (first | exact (Kd.C_below HR1_1.out (by repeat (first | (with_reducible first | exact HB.out | apply below_alloc | apply pw_below_drewN | apply below_drew1 | refine below_set ?_ GE206.out | refine below_set ?_ GE207.out) | exact HB.out))) | (with_reducible refine Kd.C_alloc ?_ _) | (with_reducible refine Kd.C_drewN ?_ _) | (with_reducible refine Kd.C_drew ?_))); (case side4 => exact HC1_1.out); rintro e w' ⟨rfl, ⟨nd, rfl⟩⟩; (try first | exact ⟨rfl, _, World.drewN_drewN _ _ _⟩ | exact ⟨rfl, _, Eq.trans (World.drewN_drewN _ _ _) (congrArg (World.drewN _) (Nat.add_assoc _ _ _))⟩)))
        repeat (go_quiet (first | (go_at_call 50; (with_reducible refine (berthref20_sameTexts.calls k _ _ l0_0 _ _ l1_0 true _ ?side1 ?side2 ?side3 ?side4 A8.out).mono ?_); (case side1 => repeat (first | exact (Kd.C_below HR0_0.out HB.out) | (with_reducible refine Kd.C_alloc ?_ _) | (with_reducible refine Kd.C_drewN ?_ _) | (with_reducible refine Kd.C_drew ?_))); (case side2 => exact HC0_0.out); (case side3 => repeat (first | exact (Kd.C_below HR1_0.out HB.out) | (with_reducible refine Kd.C_alloc ?_ _) | (with_reducible refine Kd.C_drewN ?_ _) | (with_reducible refine Kd.C_drew ?_))); (case side4 => exact HC1_0.out); rintro e w' ⟨rfl, ⟨nd, rfl⟩⟩; (try first | exact ⟨rfl, _, World.drewN_drewN _ _ _⟩ | exact ⟨rfl, _, Eq.trans (World.drewN_drewN _ _ _) (congrArg (World.drewN _) (Nat.add_assoc _ _ _))⟩)) | (go_at_call 51; (with_reducible refine (berthref20_sameNums.calls k _ _ l0_1 _ _ l1_1 true _ ?side1 ?side2 ?side3 ?side4 A10.out).mono ?_); (case side1 => repeat (first | exact (Kd.C_below HR0_1.out (by repeat (first | (with_reducible first | exact HB.out | apply below_alloc | apply pw_below_drewN | apply below_drew1 | refine below_set ?_ GE206.out | refine below_set ?_ GE207.out) | exact HB.out))) | (with_reducible refine Kd.C_alloc ?_ _) | (with_reducible refine Kd.C_drewN ?_ _) | (with_reducible refine Kd.C_drew ?_))); (case side2 => exact HC0_1.out); (case side3 => repeat (first | exact (Kd.C_below HR1_1.out (by repeat (first | (with_reducible first | exact HB.out | apply below_alloc | apply pw_below_drewN | apply below_drew1 | refine below_set ?_ GE206.out | refine below_set ?_ GE207.out) | exact HB.out))) | (with_reducible refine Kd.C_alloc ?_ _) | (with_reducible refine Kd.C_drewN ?_ _) | (with_reducible refine Kd.C_drew ?_))); (case side4 => exact HC1_1.out); rintro e w' ⟨rfl, ⟨nd, rfl⟩⟩; (try first | exact ⟨rfl, _, World.drewN_drewN _ _ _⟩ | exact ⟨rfl, _, Eq.trans (World.drewN_drewN _ _ _) (congrArg (World.drewN _) (Nat.add_assoc _ _ _))⟩))); try go_wp2_with (first | (go_at_call 50; (with_reducible refine (berthref20_sameTexts.calls k _ _ l0_0 _ _ l1_0 true _ ?side1 ?side2 ?side3 ?side4 A8.out).mono ?_); (case side1 => repeat (first | exact (Kd.C_below HR0_0.out HB.out) | (with_reducible refine Kd.C_alloc ?_ _) | (with_reducible refine Kd.C_drewN ?_ _) | (with_reducible refine Kd.C_drew ?_))); (case side2 => exact HC0_0.out); (case side3 => repeat (first | exact (Kd.C_below HR1_0.out HB.out) | (with_reducible refine Kd.C_alloc ?_ _) | (with_reducible refine Kd.C_drewN ?_ _) | (with_reducible refine Kd.C_drew ?_))); (case side4 => exact HC1_0.out); rintro e w' ⟨rfl, ⟨nd, rfl⟩⟩; (try first | exact ⟨rfl, _, World.drewN_drewN _ _ _⟩ | exact ⟨rfl, _, Eq.trans (World.drewN_drewN _ _ _) (congrArg (World.drewN _) (Nat.add_assoc _ _ _))⟩)) | (go_at_call 51; (with_reducible refine (berthref20_sameNums.calls k _ _ l0_1 _ _ l1_1 true _ ?side1 ?side2 ?side3 ?side4 A10.out).mono ?_); (case side1 => repeat (first | exact (Kd.C_below HR0_1.out (by repeat (first | (with_reducible first | exact HB.out | apply below_alloc | apply pw_below_drewN | apply below_drew1 | refine below_set ?_ GE206.out | refine below_set ?_ GE207.out) | exact HB.out))) | (with_reducible refine Kd.C_alloc ?_ _) | (with_reducible refine Kd.C_drewN ?_ _) | (with_reducible refine Kd.C_drew ?_))); (case side2 => exact HC0_1.out); (case side3 => repeat (first | exact (Kd.C_below HR1_1.out (by repeat (first | (with_reducible first | exact HB.out | apply below_alloc | apply pw_below_drewN | apply below_drew1 | refine below_set ?_ GE206.out | refine below_set ?_ GE207.out) | exact HB.out))) | (with_reducible refine Kd.C_alloc ?_ _) | (with_reducible refine Kd.C_drewN ?_ _) | (with_reducible refine Kd.C_drew ?_))); (case side4 => exact HC1_1.out); rintro e w' ⟨rfl, ⟨nd, rfl⟩⟩; (try first | exact ⟨rfl, _, World.drewN_drewN _ _ _⟩ | exact ⟨rfl, _, Eq.trans (World.drewN_drewN _ _ _) (congrArg (World.drewN _) (Nat.add_assoc _ _ _))⟩))))
        go_meet
        case rel => exact ⟨_, (true), (by first | rfl | (simp; done) | (simp [*]; done) | (simp only [i64_w]; done) | (simp [i64_w, Int.tdiv_eq_ediv_of_nonneg]; done)), H', ⟨by first | omega | exact Nat.le_refl _⟩, ⟨by (with_reducible repeat (first | refine blk_drewN ?_ _ | refine blk_drew ?_ | refine blk_alloc ?_ _)); exact BK206.out⟩, ⟨by (with_reducible repeat (first | refine blk_drewN ?_ _ | refine blk_drew ?_ | refine blk_alloc ?_ _)); exact BK207.out⟩, ⟨by repeat (first | (with_reducible first | exact HB.out | apply below_alloc | apply pw_below_drewN | apply below_drew1 | refine below_set ?_ GE206.out | refine below_set ?_ GE207.out) | exact HB.out)⟩⟩
      ·
       rw [if_neg c12] at H
       have c12b0 : ((l0_2.length : Int) == (l1_2.length : Int)) = false := beq_eq_false_iff_ne.mpr c12
       have c12b1 : ((l0_2.length : Int) != (l1_2.length : Int)) = true := bne_iff_ne.mpr c12
       have c12b2 : (l0_2.length == l1_2.length) = false := by first | simpa using c12 | (simp at c12 ⊢; omega)
       have H' := Aside0.mk H
       clear H
       have hnb20 := NB206_207.out
       have hnc20 := NB207_206.out
       have hcz21_0 : w5.cell? ⟨gb206, 0, none⟩ = some (.slice A0_0 l0_0.length c0_0) := (blk_cell BK206.out 0).trans rfl
       have hcz21_1 : w5.cell? ⟨gb206, 1, none⟩ = some (.slice A0_1 l0_1.length c0_1) := (blk_cell BK206.out 1).trans rfl
       have hcz21_2 : w5.cell? ⟨gb206, 2, none⟩ = some (.slice A0_2 l0_2.length c0_2) := (blk_cell BK206.out 2).trans rfl
       have hcz21_3 : w5.cell? ⟨gb206, 3, none⟩ = some (.slice A0_3 l0_3.length c0_3) := (blk_cell BK206.out 3).trans rfl
       have hcz21_4 : w5.cell? ⟨gb206, 4, none⟩ = some (.slice A0_4 l0_4.length c0_4) := (blk_cell BK206.out 4).trans rfl
       have hcz21_5 : w5.cell? ⟨gb206, 5, none⟩ = some (.int .i64 a0_5) := (blk_cell BK206.out 5).trans rfl
       have hcz21_6 : w5.cell? ⟨gb206, 6, none⟩ = some (.int .i64 a0_6) := (blk_cell BK206.out 6).trans rfl
       have hfz21_0 := blk_frozen BK206.out 0
       have hfz21_1 := blk_frozen BK206.out 1
       have hfz21_2 := blk_frozen BK206.out 2
       have hfz21_3 := blk_frozen BK206.out 3
       have hfz21_4 := blk_frozen BK206.out 4
       have hfz21_5 := blk_frozen BK206.out 5
       have hfz21_6 := blk_frozen BK206.out 6
       have hcz22_0 : w5.cell? ⟨gb207, 0, none⟩ = some (.slice A1_0 l1_0.length c1_0) := (blk_cell BK207.out 0).trans rfl
       have hcz22_1 : w5.cell? ⟨gb207, 1, none⟩ = some (.slice A1_1 l1_1.length c1_1) := (blk_cell BK207.out 1).trans rfl
       have hcz22_2 : w5.cell? ⟨gb207, 2, none⟩ = some (.slice A1_2 l1_2.length c1_2) := (blk_cell BK207.out 2).trans rfl
       have hcz22_3 : w5.cell? ⟨gb207, 3, none⟩ = some (.slice A1_3 l1_3.length c1_3) := (blk_cell BK207.out 3).trans rfl
       have hcz22_4 : w5.cell? ⟨gb207, 4, none⟩ = some (.slice A1_4 l1_4.length c1_4) := (blk_cell BK207.out 4).trans rfl
       have hcz22_5 : w5.cell? ⟨gb207, 5, none⟩ = some (.int .i64 a1_5) := (blk_cell BK207.out 5).trans rfl
       have hcz22_6 : w5.cell? ⟨gb207, 6, none⟩ = some (.int .i64 a1_6) := (blk_cell BK207.out 6).trans rfl
       have hfz22_0 := blk_frozen BK207.out 0
       have hfz22_1 := blk_frozen BK207.out 1
       have hfz22_2 := blk_frozen BK207.out 2
       have hfz22_3 := blk_frozen BK207.out 3
       have hfz22_4 := blk_frozen BK207.out 4
       have hfz22_5 := blk_frozen BK207.out 5
       have hfz22_6 := blk_frozen BK207.out 6
       go_wp2_with (first | (go_at_call 50; (with_reducible refine (berthref20_sameTexts.calls k _ _ l0_0 _ _ l1_0 true _ ?side1 ?side2 ?side3 ?side4 A8.out).mono ?_); (case side1 => repeat (first | exact (Kd.C_below HR0_0.out HB.out) | (with_reducible refine Kd.C_alloc ?_ _) | (with_reducible refine Kd.C_drewN ?_ _) | (with_reducible refine Kd.C_drew ?_))); (case side2 => exact HC0_0.out); (case side3 => repeat (first | exact (Kd.C_below HR1_0.out HB.out) | (with_reducible refine Kd.C_alloc ?_ _) | (with_reducible refine Kd.C_drewN ?_ _) | (with_reducible refine Kd.C_drew ?_))); (case side4 => exact HC1_0.out); rintro e w' ⟨rfl, ⟨nd, rfl⟩⟩; (try first | exact ⟨rfl, _, World.drewN_drewN _ _ _⟩ | exact ⟨rfl, _, Eq.trans (World.drewN_drewN _ _ _) (congrArg (World.drewN _) (Nat.add_assoc _ _ _))⟩)) | (go_at_call 51; (with_reducible refine (berthref20_sameNums.calls k _ _ l0_1 _ _ l1_1 true _ ?side1 ?side2 ?side3 ?side4 A10.out).mono ?_); (case side1 => repeat (first | exact (Kd.C_below HR0_1.out (by repeat (first | (with_reducible first | exact HB.out | apply below_alloc | apply pw_below_drewN | apply below_drew1 | refine below_set ?_ GE206.out | refine below_set ?_ GE207.out) | exact HB.out))) | (with_reducible refine Kd.C_alloc ?_ _) | (with_reducible refine Kd.C_drewN ?_ _) | (with_reducible refine Kd.C_drew ?_))); (case side2 => exact HC0_1.out); (case side3 => repeat (first | exact (Kd.C_below HR1_1.out (by repeat (first | (with_reducible first | exact HB.out | apply below_alloc | apply pw_below_drewN | apply below_drew1 | refine below_set ?_ GE206.out | refine below_set ?_ GE207.out) | exact HB.out))) | (with_reducible refine Kd.C_alloc ?_ _) | (with_reducible refine Kd.C_drewN ?_ _) | (with_reducible refine Kd.C_drew ?_))); (case side4 => exact HC1_1.out); rintro e w' ⟨rfl, ⟨nd, rfl⟩⟩; (try first | exact ⟨rfl, _, World.drewN_drewN _ _ _⟩ | exact ⟨rfl, _, Eq.trans (World.drewN_drewN _ _ _) (congrArg (World.drewN _) (Nat.add_assoc _ _ _))⟩)))
       repeat (go_quiet (first | (go_at_call 50; (with_reducible refine (berthref20_sameTexts.calls k _ _ l0_0 _ _ l1_0 true _ ?side1 ?side2 ?side3 ?side4 A8.out).mono ?_); (case side1 => repeat (first | exact (Kd.C_below HR0_0.out HB.out) | (with_reducible refine Kd.C_alloc ?_ _) | (with_reducible refine Kd.C_drewN ?_ _) | (with_reducible refine Kd.C_drew ?_))); (case side2 => exact HC0_0.out); (case side3 => repeat (first | exact (Kd.C_below HR1_0.out HB.out) | (with_reducible refine Kd.C_alloc ?_ _) | (with_reducible refine Kd.C_drewN ?_ _) | (with_reducible refine Kd.C_drew ?_))); (case side4 => exact HC1_0.out); rintro e w' ⟨rfl, ⟨nd, rfl⟩⟩; (try first | exact ⟨rfl, _, World.drewN_drewN _ _ _⟩ | exact ⟨rfl, _, Eq.trans (World.drewN_drewN _ _ _) (congrArg (World.drewN _) (Nat.add_assoc _ _ _))⟩)) | (go_at_call 51; (with_reducible refine (berthref20_sameNums.calls k _ _ l0_1 _ _ l1_1 true _ ?side1 ?side2 ?side3 ?side4 A10.out).mono ?_); (case side1 => repeat (first | exact (Kd.C_below HR0_1.out (by repeat (first | (with_reducible first | exact HB.out | apply below_alloc | apply pw_below_drewN | apply below_drew1 | refine below_set ?_ GE206.out | refine below_set ?_ GE207.out) | exact HB.out))) | (with_reducible refine Kd.C_alloc ?_ _) | (with_reducible refine Kd.C_drewN ?_ _) | (with_reducible refine Kd.C_drew ?_))); (case side2 => exact HC0_1.out); (case side3 => repeat (first | exact (Kd.C_below HR1_1.out (by repeat (first | (with_reducible first | exact HB.out | apply below_alloc | apply pw_below_drewN | apply below_drew1 | refine below_set ?_ GE206.out | refine below_set ?_ GE207.out) | exact HB.out))) | (with_reducible refine Kd.C_alloc ?_ _) | (with_reducible refine Kd.C_drewN ?_ _) | (with_reducible refine Kd.C_drew ?_))); (case side4 => exact HC1_1.out); rintro e w' ⟨rfl, ⟨nd, rfl⟩⟩; (try first | exact ⟨rfl, _, World.drewN_drewN _ _ _⟩ | exact ⟨rfl, _, Eq.trans (World.drewN_drewN _ _ _) (congrArg (World.drewN _) (Nat.add_assoc _ _ _))⟩))); try go_wp2_with (first | (go_at_call 50; (with_reducible refine (berthref20_sameTexts.calls k _ _ l0_0 _ _ l1_0 true _ ?side1 ?side2 ?side3 ?side4 A8.out).mono ?_); (case side1 => repeat (first | exact (Kd.C_below HR0_0.out HB.out) | (with_reducible refine Kd.C_alloc ?_ _) | (with_reducible refine Kd.C_drewN ?_ _) | (with_reducible refine Kd.C_drew ?_))); (case side2 => exact HC0_0.out); (case side3 => repeat (first | exact (Kd.C_below HR1_0.out HB.out) | (with_reducible refine Kd.C_alloc ?_ _) | (with_reducible refine Kd.C_drewN ?_ _) | (with_reducible refine Kd.C_drew ?_))); (case side4 => exact HC1_0.out); rintro e w' ⟨rfl, ⟨nd, rfl⟩⟩; (try first | exact ⟨rfl, _, World.drewN_drewN _ _ _⟩ | exact ⟨rfl, _, Eq.trans (World.drewN_drewN _ _ _) (congrArg (World.drewN _) (Nat.add_assoc _ _ _))⟩)) | (go_at_call 51; (with_reducible refine (berthref20_sameNums.calls k _ _ l0_1 _ _ l1_1 true _ ?side1 ?side2 ?side3 ?side4 A10.out).mono ?_); (case side1 => repeat (first | exact (Kd.C_below HR0_1.out (by repeat (first | (with_reducible first | exact HB.out | apply below_alloc | apply pw_below_drewN | apply below_drew1 | refine below_set ?_ GE206.out | refine below_set ?_ GE207.out) | exact HB.out))) | (with_reducible refine Kd.C_alloc ?_ _) | (with_reducible refine Kd.C_drewN ?_ _) | (with_reducible refine Kd.C_drew ?_))); (case side2 => exact HC0_1.out); (case side3 => repeat (first | exact (Kd.C_below HR1_1.out (by repeat (first | (with_reducible first | exact HB.out | apply below_alloc | apply pw_below_drewN | apply below_drew1 | refine below_set ?_ GE206.out | refine below_set ?_ GE207.out) | exact HB.out))) | (with_reducible refine Kd.C_alloc ?_ _) | (with_reducible refine Kd.C_drewN ?_ _) | (with_reducible refine Kd.C_drew ?_))); (case side4 => exact HC1_1.out); rintro e w' ⟨rfl, ⟨nd, rfl⟩⟩; (try first | exact ⟨rfl, _, World.drewN_drewN _ _ _⟩ | exact ⟨rfl, _, Eq.trans (World.drewN_drewN _ _ _) (congrArg (World.drewN _) (Nat.add_assoc _ _ _))⟩))))
       go_meet
       case rel => exact ⟨_, (true), (by first | rfl | (simp; done) | (simp [*]; done) | (simp only [i64_w]; done) | (simp [i64_w, Int.tdiv_eq_ediv_of_nonneg]; done)), H', ⟨by first | omega | exact Nat.le_refl _⟩, ⟨by (with_reducible repeat (first | refine blk_drewN ?_ _ | refine blk_drew ?_ | refine blk_alloc ?_ _)); exact BK206.out⟩, ⟨by (with_reducible repeat (first | refine blk_drewN ?_ _ | refine blk_drew ?_ | refine blk_alloc ?_ _)); exact BK207.out⟩, ⟨by repeat (first | (with_reducible first | exact HB.out | apply below_alloc | apply pw_below_drewN | apply below_drew1 | refine below_set ?_ GE206.out | refine below_set ?_ GE207.out) | exact HB.out)⟩⟩
     ·
      replace c11 := Bool.eq_false_iff.mpr c11
      subst c11
      have H1 : (berthref20_Same.j0 k true l0_0 l0_1 l0_2 l0_3 l0_4 a0_5 a0_6 l1_0 l1_1 l1_2 l1_3 l1_4 a1_5 a1_6) = some r := by rw [if_neg (show ¬ (false = true) by decide)] at H; exact H
      clear H
      have H := H1
      clear H1
      have H' := Aside0.mk H
      clear H
      have hnb23 := NB206_207.out
      have hnc23 := NB207_206.out
      have hcz24_0 : w5.cell? ⟨gb206, 0, none⟩ = some (.slice A0_0 l0_0.length c0_0) := (blk_cell BK206.out 0).trans rfl
      have hcz24_1 : w5.cell? ⟨gb206, 1, none⟩ = some (.slice A0_1 l0_1.length c0_1) := (blk_cell BK206.out 1).trans rfl
      have hcz24_2 : w5.cell? ⟨gb206, 2, none⟩ = some (.slice A0_2 l0_2.length c0_2) := (blk_cell BK206.out 2).trans rfl
      have hcz24_3 : w5.cell? ⟨gb206, 3, none⟩ = some (.slice A0_3 l0_3.length c0_3) := (blk_cell BK206.out 3).trans rfl
      have hcz24_4 : w5.cell? ⟨gb206, 4, none⟩ = some (.slice A0_4 l0_4.length c0_4) := (blk_cell BK206.out 4).trans rfl
      have hcz24_5 : w5.cell? ⟨gb206, 5, none⟩ = some (.int .i64 a0_5) := (blk_cell BK206.out 5).trans rfl
      have hcz24_6 : w5.cell? ⟨gb206, 6, none⟩ = some (.int .i64 a0_6) := (blk_cell BK206.out 6).trans rfl
      have hfz24_0 := blk_frozen BK206.out 0
      have hfz24_1 := blk_frozen BK206.out 1
      have hfz24_2 := blk_frozen BK206.out 2
      have hfz24_3 := blk_frozen BK206.out 3
      have hfz24_4 := blk_frozen BK206.out 4
      have hfz24_5 := blk_frozen BK206.out 5
      have hfz24_6 := blk_frozen BK206.out 6
      have hcz25_0 : w5.cell? ⟨gb207, 0, none⟩ = some (.slice A1_0 l1_0.length c1_0) := (blk_cell BK207.out 0).trans rfl
      have hcz25_1 : w5.cell? ⟨gb207, 1, none⟩ = some (.slice A1_1 l1_1.length c1_1) := (blk_cell BK207.out 1).trans rfl
      have hcz25_2 : w5.cell? ⟨gb207, 2, none⟩ = some (.slice A1_2 l1_2.length c1_2) := (blk_cell BK207.out 2).trans rfl
      have hcz25_3 : w5.cell? ⟨gb207, 3, none⟩ = some (.slice A1_3 l1_3.length c1_3) := (blk_cell BK207.out 3).trans rfl
      have hcz25_4 : w5.cell? ⟨gb207, 4, none⟩ = some (.slice A1_4 l1_4.length c1_4) := (blk_cell BK207.out 4).trans rfl
      have hcz25_5 : w5.cell? ⟨gb207, 5, none⟩ = some (.int .i64 a1_5) := (blk_cell BK207.out 5).trans rfl
      have hcz25_6 : w5.cell? ⟨gb207, 6, none⟩ = some (.int .i64 a1_6) := (blk_cell BK207.out 6).trans rfl
      have hfz25_0 := blk_frozen BK207.out 0
      have hfz25_1 := blk_frozen BK207.out 1
      have hfz25_2 := blk_frozen BK207.out 2
      have hfz25_3 := blk_frozen BK207.out 3
      have hfz25_4 := blk_frozen BK207.out 4
      have hfz25_5 := blk_frozen BK207.out 5
      have hfz25_6 := blk_frozen BK207.out 6
      go_wp2_with (first | (go_at_call 50; (with_reducible refine (berthref20_sameTexts.calls k _ _ l0_0 _ _ l1_0 true _ ?side1 ?side2 ?side3 ?side4 A8.out).mono ?_); (case side1 => repeat (first | exact (Kd.C_below HR0_0.out HB.out) | (with_reducible refine Kd.C_alloc ?_ _) | (with_reducible refine Kd.C_drewN ?_ _) | (with_reducible refine Kd.C_drew ?_))); (case side2 => exact HC0_0.out); (case side3 => repeat (first | exact (Kd.C_below HR1_0.out HB.out) | (with_reducible refine Kd.C_alloc ?_ _) | (with_reducible refine Kd.C_drewN ?_ _) | (with_reducible refine Kd.C_drew ?_))); (case side4 => exact HC1_0.out); rintro e w' ⟨rfl, ⟨nd, rfl⟩⟩; (try first | exact ⟨rfl, _, World.drewN_drewN _ _ _⟩ | exact ⟨rfl, _, Eq.trans (World.drewN_drewN _ _ _) (congrArg (World.drewN _) (Nat.add_assoc _ _ _))⟩)) | (go_at_call 51; (with_reducible refine (berthref20_sameNums.calls k _ _ l0_1 _ _ l1_1 false _ ?side1 ?side2 ?side3 ?side4 A10.out).mono ?_); (case side1 => repeat (first | exact (Kd.C_below HR0_1.out (by repeat (first | (with_reducible first | exact HB.out | apply below_alloc | apply pw_below_drewN | apply below_drew1 | refine below_set ?_ GE206.out | refine below_set ?_ GE207.out) | exact HB.out))) | (with_reducible refine Kd.C_alloc ?_ _) | (with_reducible refine Kd.C_drewN ?_ _) | (with_reducible refine Kd.C_drew ?_))); (case side2 => exact HC0_1.out); (case side3 => repeat (first | exact (Kd.C_below HR1_1.out (by repeat (first | (with_reducible first | exact HB.out | apply below_alloc | apply pw_below_drewN | apply below_drew1 | refine below_set ?_ GE206.out | refine below_set ?_ GE207.out) | exact HB.out))) | (with_reducible refine Kd.C_alloc ?_ _) | (with_reducible refine Kd.C_drewN ?_ _) | (with_reducible refine Kd.C_drew ?_))); (case side4 => exact HC1_1.out); rintro e w' ⟨rfl, ⟨nd, rfl⟩⟩; (try first | exact ⟨rfl, _, World.drewN_drewN _ _ _⟩ | exact ⟨rfl, _, Eq.trans (World.drewN_drewN _ _ _) (congrArg (World.drewN _) (Nat.add_assoc _ _ _))⟩)))
      repeat (go_quiet (first | (go_at_call 50; (with_reducible refine (berthref20_sameTexts.calls k _ _ l0_0 _ _ l1_0 true _ ?side1 ?side2 ?side3 ?side4 A8.out).mono ?_); (case side1 => repeat (first | exact (Kd.C_below HR0_0.out HB.out) | (with_reducible refine Kd.C_alloc ?_ _) | (with_reducible refine Kd.C_drewN ?_ _) | (with_reducible refine Kd.C_drew ?_))); (case side2 => exact HC0_0.out); (case side3 => repeat (first | exact (Kd.C_below HR1_0.out HB.out) | (with_reducible refine Kd.C_alloc ?_ _) | (with_reducible refine Kd.C_drewN ?_ _) | (with_reducible refine Kd.C_drew ?_))); (case side4 => exact HC1_0.out); rintro e w' ⟨rfl, ⟨nd, rfl⟩⟩; (try first | exact ⟨rfl, _, World.drewN_drewN _ _ _⟩ | exact ⟨rfl, _, Eq.trans (World.drewN_drewN _ _ _) (congrArg (World.drewN _) (Nat.add_assoc _ _ _))⟩)) | (go_at_call 51; (with_reducible refine (berthref20_sameNums.calls k _ _ l0_1 _ _ l1_1 false _ ?side1 ?side2 ?side3 ?side4 A10.out).mono ?_); (case side1 => repeat (first | exact (Kd.C_below HR0_1.out (by repeat (first | (with_reducible first | exact HB.out | apply below_alloc | apply pw_below_drewN | apply below_drew1 | refine below_set ?_ GE206.out | refine below_set ?_ GE207.out) | exact HB.out))) | (with_reducible refine Kd.C_alloc ?_ _) | (with_reducible refine Kd.C_drewN ?_ _) | (with_reducible refine Kd.C_drew ?_))); (case side2 => exact HC0_1.out); (case side3 => repeat (first | exact (Kd.C_below HR1_1.out (by repeat (first | (with_reducible first | exact HB.out | apply below_alloc | apply pw_below_drewN | apply below_drew1 | refine below_set ?_ GE206.out | refine below_set ?_ GE207.out) | exact HB.out))) | (with_reducible refine Kd.C_alloc ?_ _) | (with_reducible refine Kd.C_drewN ?_ _) | (with_reducible refine Kd.C_drew ?_))); (case side4 => exact HC1_1.out); rintro e w' ⟨rfl, ⟨nd, rfl⟩⟩; (try first | exact ⟨rfl, _, World.drewN_drewN _ _ _⟩ | exact ⟨rfl, _, Eq.trans (World.drewN_drewN _ _ _) (congrArg (World.drewN _) (Nat.add_assoc _ _ _))⟩))); try go_wp2_with (first | (go_at_call 50; (with_reducible refine (berthref20_sameTexts.calls k _ _ l0_0 _ _ l1_0 true _ ?side1 ?side2 ?side3 ?side4 A8.out).mono ?_); (case side1 => repeat (first | exact (Kd.C_below HR0_0.out HB.out) | (with_reducible refine Kd.C_alloc ?_ _) | (with_reducible refine Kd.C_drewN ?_ _) | (with_reducible refine Kd.C_drew ?_))); (case side2 => exact HC0_0.out); (case side3 => repeat (first | exact (Kd.C_below HR1_0.out HB.out) | (with_reducible refine Kd.C_alloc ?_ _) | (with_reducible refine Kd.C_drewN ?_ _) | (with_reducible refine Kd.C_drew ?_))); (case side4 => exact HC1_0.out); rintro e w' ⟨rfl, ⟨nd, rfl⟩⟩; (try first | exact ⟨rfl, _, World.drewN_drewN _ _ _⟩ | exact ⟨rfl, _, Eq.trans (World.drewN_drewN _ _ _) (congrArg (World.drewN _) (Nat.add_assoc _ _ _))⟩)) | (go_at_call 51; (with_reducible refine (berthref20_sameNums.calls k _ _ l0_1 _ _ l1_1 false _ ?side1 ?side2 ?side3 ?side4 A10.out).mono ?_); (case side1 => repeat (first | exact (Kd.C_below HR0_1.out (by repeat (first | (with_reducible first | exact HB.out | apply below_alloc | apply pw_below_drewN | apply below_drew1 | refine below_set ?_ GE206.out | refine below_set ?_ GE207.out) | exact HB.out))) | (with_reducible refine Kd.C_alloc ?_ _) | (with_reducible refine Kd.C_drewN ?_ _) | (with_reducible refine Kd.C_drew ?_))); (case side2 => exact HC0_1.out); (case side3 => repeat (first | exact (Kd.C_below HR1_1.out (by repeat (first | (with_reducible first | exact HB.out | apply below_alloc | apply pw_below_drewN | apply below_drew1 | refine below_set ?_ GE206.out | refine below_set ?_ GE207.out) | exact HB.out))) | (with_reducible refine Kd.C_alloc ?_ _) | (with_reducible refine Kd.C_drewN ?_ _) | (with_reducible refine Kd.C_drew ?_))); (case side4 => exact HC1_1.out); rintro e w' ⟨rfl, ⟨nd, rfl⟩⟩; (try first | exact ⟨rfl, _, World.drewN_drewN _ _ _⟩ | exact ⟨rfl, _, Eq.trans (World.drewN_drewN _ _ _) (congrArg (World.drewN _) (Nat.add_assoc _ _ _))⟩))))
      go_meet
      case rel => exact ⟨_, (true), (by first | rfl | (simp; done) | (simp [*]; done) | (simp only [i64_w]; done) | (simp [i64_w, Int.tdiv_eq_ediv_of_nonneg]; done)), H', ⟨by first | omega | exact Nat.le_refl _⟩, ⟨by (with_reducible repeat (first | refine blk_drewN ?_ _ | refine blk_drew ?_ | refine blk_alloc ?_ _)); exact BK206.out⟩, ⟨by (with_reducible repeat (first | refine blk_drewN ?_ _ | refine blk_drew ?_ | refine blk_alloc ?_ _)); exact BK207.out⟩, ⟨by repeat (first | (with_reducible first | exact HB.out | apply below_alloc | apply pw_below_drewN | apply below_drew1 | refine below_set ?_ GE206.out | refine below_set ?_ GE207.out) | exact HB.out)⟩⟩
    ·
     replace c9 := Bool.eq_false_iff.mpr c9
     subst c9
     have H1 : (berthref20_Same.j0 k true l0_0 l0_1 l0_2 l0_3 l0_4 a0_5 a0_6 l1_0 l1_1 l1_2 l1_3 l1_4 a1_5 a1_6) = some r := by rw [if_neg (show ¬ (false = true) by decide)] at H; exact H
     clear H
     have H := H1
     clear H1
     have H' := Aside0.mk H
     clear H
     have hnb26 := NB206_207.out
     have hnc26 := NB207_206.out
     have hcz27_0 : w5.cell? ⟨gb206, 0, none⟩ = some (.slice A0_0 l0_0.length c0_0) := (blk_cell BK206.out 0).trans rfl
     have hcz27_1 : w5.cell? ⟨gb206, 1, none⟩ = some (.slice A0_1 l0_1.length c0_1) := (blk_cell BK206.out 1).trans rfl
     have hcz27_2 : w5.cell? ⟨gb206, 2, none⟩ = some (.slice A0_2 l0_2.length c0_2) := (blk_cell BK206.out 2).trans rfl
     have hcz27_3 : w5.cell? ⟨gb206, 3, none⟩ = some (.slice A0_3 l0_3.length c0_3) := (blk_cell BK206.out 3).trans rfl
     have hcz27_4 : w5.cell? ⟨gb206, 4, none⟩ = some (.slice A0_4 l0_4.length c0_4) := (blk_cell BK206.out 4).trans rfl
     have hcz27_5 : w5.cell? ⟨gb206, 5, none⟩ = some (.int .i64 a0_5) := (blk_cell BK206.out 5).trans rfl
     have hcz27_6 : w5.cell? ⟨gb206, 6, none⟩ = some (.int .i64 a0_6) := (blk_cell BK206.out 6).trans rfl
     have hfz27_0 := blk_frozen BK206.out 0
     have hfz27_1 := blk_frozen BK206.out 1
     have hfz27_2 := blk_frozen BK206.out 2
     have hfz27_3 := blk_frozen BK206.out 3
     have hfz27_4 := blk_frozen BK206.out 4
     have hfz27_5 := blk_frozen BK206.out 5
     have hfz27_6 := blk_frozen BK206.out 6
     have hcz28_0 : w5.cell? ⟨gb207, 0, none⟩ = some (.slice A1_0 l1_0.length c1_0) := (blk_cell BK207.out 0).trans rfl
     have hcz28_1 : w5.cell? ⟨gb207, 1, none⟩ = some (.slice A1_1 l1_1.length c1_1) := (blk_cell BK207.out 1).trans rfl
     have hcz28_2 : w5.cell? ⟨gb207, 2, none⟩ = some (.slice A1_2 l1_2.length c1_2) := (blk_cell BK207.out 2).trans rfl
     have hcz28_3 : w5.cell? ⟨gb207, 3, none⟩ = some (.slice A1_3 l1_3.length c1_3) := (blk_cell BK207.out 3).trans rfl
     have hcz28_4 : w5.cell? ⟨gb207, 4, none⟩ = some (.slice A1_4 l1_4.length c1_4) := (blk_cell BK207.out 4).trans rfl
     have hcz28_5 : w5.cell? ⟨gb207, 5, none⟩ = some (.int .i64 a1_5) := (blk_cell BK207.out 5).trans rfl
     have hcz28_6 : w5.cell? ⟨gb207, 6, none⟩ = some (.int .i64 a1_6) := (blk_cell BK207.out 6).trans rfl
     have hfz28_0 := blk_frozen BK207.out 0
     have hfz28_1 := blk_frozen BK207.out 1
     have hfz28_2 := blk_frozen BK207.out 2
     have hfz28_3 := blk_frozen BK207.out 3
     have hfz28_4 := blk_frozen BK207.out 4
     have hfz28_5 := blk_frozen BK207.out 5
     have hfz28_6 := blk_frozen BK207.out 6
     go_wp2_with (first | (go_at_call 50; (with_reducible refine (berthref20_sameTexts.calls k _ _ l0_0 _ _ l1_0 false _ ?side1 ?side2 ?side3 ?side4 A8.out).mono ?_); (case side1 => repeat (first | exact (Kd.C_below HR0_0.out HB.out) | (with_reducible refine Kd.C_alloc ?_ _) | (with_reducible refine Kd.C_drewN ?_ _) | (with_reducible refine Kd.C_drew ?_))); (case side2 => exact HC0_0.out); (case side3 => repeat (first | exact (Kd.C_below HR1_0.out HB.out) | (with_reducible refine Kd.C_alloc ?_ _) | (with_reducible refine Kd.C_drewN ?_ _) | (with_reducible refine Kd.C_drew ?_))); (case side4 => exact HC1_0.out); rintro e w' ⟨rfl, ⟨nd, rfl⟩⟩; (try first | exact ⟨rfl, _, World.drewN_drewN _ _ _⟩ | exact ⟨rfl, _, Eq.trans (World.drewN_drewN _ _ _) (congrArg (World.drewN _) (Nat.add_assoc _ _ _))⟩)))
     repeat (go_quiet (first | (go_at_call 50; (with_reducible refine (berthref20_sameTexts.calls k _ _ l0_0 _ _ l1_0 false _ ?side1 ?side2 ?side3 ?side4 A8.out).mono ?_); (case side1 => repeat (first | exact (Kd.C_below HR0_0.out HB.out) | (with_reducible refine Kd.C_alloc ?_ _) | (with_reducible refine Kd.C_drewN ?_ _) | (with_reducible refine Kd.C_drew ?_))); (case side2 => exact HC0_0.out); (case side3 => repeat (first | exact (Kd.C_below HR1_0.out HB.out) | (with_reducible refine Kd.C_alloc ?_ _) | (with_reducible refine Kd.C_drewN ?_ _) | (with_reducible refine Kd.C_drew ?_))); (case side4 => exact HC1_0.out); rintro e w' ⟨rfl, ⟨nd, rfl⟩⟩; (try first | exact ⟨rfl, _, World.drewN_drewN _ _ _⟩ | exact ⟨rfl, _, Eq.trans (World.drewN_drewN _ _ _) (congrArg (World.drewN _) (Nat.add_assoc _ _ _))⟩))); try go_wp2_with (first | (go_at_call 50; (with_reducible refine (berthref20_sameTexts.calls k _ _ l0_0 _ _ l1_0 false _ ?side1 ?side2 ?side3 ?side4 A8.out).mono ?_); (case side1 => repeat (first | exact (Kd.C_below HR0_0.out HB.out) | (with_reducible refine Kd.C_alloc ?_ _) | (with_reducible refine Kd.C_drewN ?_ _) | (with_reducible refine Kd.C_drew ?_))); (case side2 => exact HC0_0.out); (case side3 => repeat (first | exact (Kd.C_below HR1_0.out HB.out) | (with_reducible refine Kd.C_alloc ?_ _) | (with_reducible refine Kd.C_drewN ?_ _) | (with_reducible refine Kd.C_drew ?_))); (case side4 => exact HC1_0.out); rintro e w' ⟨rfl, ⟨nd, rfl⟩⟩; (try first | exact ⟨rfl, _, World.drewN_drewN _ _ _⟩ | exact ⟨rfl, _, Eq.trans (World.drewN_drewN _ _ _) (congrArg (World.drewN _) (Nat.add_assoc _ _ _))⟩))))
     go_meet
     case rel => exact ⟨_, (true), (by first | rfl | (simp; done) | (simp [*]; done) | (simp only [i64_w]; done) | (simp [i64_w, Int.tdiv_eq_ediv_of_nonneg]; done)), H', ⟨by first | omega | exact Nat.le_refl _⟩, ⟨by (with_reducible repeat (first | refine blk_drewN ?_ _ | refine blk_drew ?_ | refine blk_alloc ?_ _)); exact BK206.out⟩, ⟨by (with_reducible repeat (first | refine blk_drewN ?_ _ | refine blk_drew ?_ | refine blk_alloc ?_ _)); exact BK207.out⟩, ⟨by repeat (first | (with_reducible first | exact HB.out | apply below_alloc | apply pw_below_drewN | apply below_drew1 | refine below_set ?_ GE206.out | refine below_set ?_ GE207.out) | exact HB.out)⟩⟩
   ·
    rw [if_neg c7] at H
    have c7b0 : (a0_6 == a1_6) = false := beq_eq_false_iff_ne.mpr c7
    have c7b1 : (a0_6 != a1_6) = true := bne_iff_ne.mpr c7
    have H' := Aside0.mk H
    clear H
    have hnb29 := NB206_207.out
    have hnc29 := NB207_206.out
    have hcz30_0 : w5.cell? ⟨gb206, 0, none⟩ = some (.slice A0_0 l0_0.length c0_0) := (blk_cell BK206.out 0).trans rfl
    have hcz30_1 : w5.cell? ⟨gb206, 1, none⟩ = some (.slice A0_1 l0_1.length c0_1) := (blk_cell BK206.out 1).trans rfl
    have hcz30_2 : w5.cell? ⟨gb206, 2, none⟩ = some (.slice A0_2 l0_2.length c0_2) := (blk_cell BK206.out 2).trans rfl
    have hcz30_3 : w5.cell? ⟨gb206, 3, none⟩ = some (.slice A0_3 l0_3.length c0_3) := (blk_cell BK206.out 3).trans rfl
    have hcz30_4 : w5.cell? ⟨gb206, 4, none⟩ = some (.slice A0_4 l0_4.length c0_4) := (blk_cell BK206.out 4).trans rfl
    have hcz30_5 : w5.cell? ⟨gb206, 5, none⟩ = some (.int .i64 a0_5) := (blk_cell BK206.out 5).trans rfl
    have hcz30_6 : w5.cell? ⟨gb206, 6, none⟩ = some (.int .i64 a0_6) := (blk_cell BK206.out 6).trans rfl
    have hfz30_0 := blk_frozen BK206.out 0
    have hfz30_1 := blk_frozen BK206.out 1
    have hfz30_2 := blk_frozen BK206.out 2
    have hfz30_3 := blk_frozen BK206.out 3
    have hfz30_4 := blk_frozen BK206.out 4
    have hfz30_5 := blk_frozen BK206.out 5
    have hfz30_6 := blk_frozen BK206.out 6
    have hcz31_0 : w5.cell? ⟨gb207, 0, none⟩ = some (.slice A1_0 l1_0.length c1_0) := (blk_cell BK207.out 0).trans rfl
    have hcz31_1 : w5.cell? ⟨gb207, 1, none⟩ = some (.slice A1_1 l1_1.length c1_1) := (blk_cell BK207.out 1).trans rfl
    have hcz31_2 : w5.cell? ⟨gb207, 2, none⟩ = some (.slice A1_2 l1_2.length c1_2) := (blk_cell BK207.out 2).trans rfl
    have hcz31_3 : w5.cell? ⟨gb207, 3, none⟩ = some (.slice A1_3 l1_3.length c1_3) := (blk_cell BK207.out 3).trans rfl
    have hcz31_4 : w5.cell? ⟨gb207, 4, none⟩ = some (.slice A1_4 l1_4.length c1_4) := (blk_cell BK207.out 4).trans rfl
    have hcz31_5 : w5.cell? ⟨gb207, 5, none⟩ = some (.int .i64 a1_5) := (blk_cell BK207.out 5).trans rfl
    have hcz31_6 : w5.cell? ⟨gb207, 6, none⟩ = some (.int .i64 a1_6) := (blk_cell BK207.out 6).trans rfl
    have hfz31_0 := blk_frozen BK207.out 0
    have hfz31_1 := blk_frozen BK207.out 1
    have hfz31_2 := blk_frozen BK207.out 2
    have hfz31_3 := blk_frozen BK207.out 3
    have hfz31_4 := blk_frozen BK207.out 4
    have hfz31_5 := blk_frozen BK207.out 5
    have hfz31_6 := blk_frozen BK207.out 6
    go_wp2
    repeat (go_quiet (fail); try go_wp2)
    go_meet
    case rel => exact ⟨_, (true), (by first | rfl | (simp; done) | (simp [*]; done) | (simp only [i64_w]; done) | (simp [i64_w, Int.tdiv_eq_ediv_of_nonneg]; done)), H', ⟨by first | omega | exact Nat.le_refl _⟩, ⟨by (with_reducible repeat (first | refine blk_drewN ?_ _ | refine blk_drew ?_ | refine blk_alloc ?_ _)); exact BK206.out⟩, ⟨by (with_reducible repeat (first | refine blk_drewN ?_ _ | refine blk_drew ?_ | refine blk_alloc ?_ _)); exact BK207.out⟩, ⟨by repeat (first | (with_reducible first | exact HB.out | apply below_alloc | apply pw_below_drewN | apply below_drew1 | refine below_set ?_ GE206.out | refine below_set ?_ GE207.out) | exact HB.out)⟩⟩
  ·
   rw [if_neg c6] at H
   have c6b0 : (a0_5 == a1_5) = false := beq_eq_false_iff_ne.mpr c6
   have c6b1 : (a0_5 != a1_5) = true := bne_iff_ne.mpr c6
   (first | rw [c6b0] | (simp only [i64_w, i32_w]; rw [c6b0]) | skip)
   have H' := Aside0.mk H
   clear H
   have hnb32 := NB206_207.out
   have hnc32 := NB207_206.out
   have hcz33_0 : w5.cell? ⟨gb206, 0, none⟩ = some (.slice A0_0 l0_0.length c0_0) := (blk_cell BK206.out 0).trans rfl
   have hcz33_1 : w5.cell? ⟨gb206, 1, none⟩ = some (.slice A0_1 l0_1.length c0_1) := (blk_cell BK206.out 1).trans rfl
   have hcz33_2 : w5.cell? ⟨gb206, 2, none⟩ = some (.slice A0_2 l0_2.length c0_2) := (blk_cell BK206.out 2).trans rfl
   have hcz33_3 : w5.cell? ⟨gb206, 3, none⟩ = some (.slice A0_3 l0_3.length c0_3) := (blk_cell BK206.out 3).trans rfl
   have hcz33_4 : w5.cell? ⟨gb206, 4, none⟩ = some (.slice A0_4 l0_4.length c0_4) := (blk_cell BK206.out 4).trans rfl
   have hcz33_5 : w5.cell? ⟨gb206, 5, none⟩ = some (.int .i64 a0_5) := (blk_cell BK206.out 5).trans rfl
   have hcz33_6 : w5.cell? ⟨gb206, 6, none⟩ = some (.int .i64 a0_6) := (blk_cell BK206.out 6).trans rfl
   have hfz33_0 := blk_frozen BK206.out 0
   have hfz33_1 := blk_frozen BK206.out 1
   have hfz33_2 := blk_frozen BK206.out 2
   have hfz33_3 := blk_frozen BK206.out 3
   have hfz33_4 := blk_frozen BK206.out 4
   have hfz33_5 := blk_frozen BK206.out 5
   have hfz33_6 := blk_frozen BK206.out 6
   have hcz34_0 : w5.cell? ⟨gb207, 0, none⟩ = some (.slice A1_0 l1_0.length c1_0) := (blk_cell BK207.out 0).trans rfl
   have hcz34_1 : w5.cell? ⟨gb207, 1, none⟩ = some (.slice A1_1 l1_1.length c1_1) := (blk_cell BK207.out 1).trans rfl
   have hcz34_2 : w5.cell? ⟨gb207, 2, none⟩ = some (.slice A1_2 l1_2.length c1_2) := (blk_cell BK207.out 2).trans rfl
   have hcz34_3 : w5.cell? ⟨gb207, 3, none⟩ = some (.slice A1_3 l1_3.length c1_3) := (blk_cell BK207.out 3).trans rfl
   have hcz34_4 : w5.cell? ⟨gb207, 4, none⟩ = some (.slice A1_4 l1_4.length c1_4) := (blk_cell BK207.out 4).trans rfl
   have hcz34_5 : w5.cell? ⟨gb207, 5, none⟩ = some (.int .i64 a1_5) := (blk_cell BK207.out 5).trans rfl
   have hcz34_6 : w5.cell? ⟨gb207, 6, none⟩ = some (.int .i64 a1_6) := (blk_cell BK207.out 6).trans rfl
   have hfz34_0 := blk_frozen BK207.out 0
   have hfz34_1 := blk_frozen BK207.out 1
   have hfz34_2 := blk_frozen BK207.out 2
   have hfz34_3 := blk_frozen BK207.out 3
   have hfz34_4 := blk_frozen BK207.out 4
   have hfz34_5 := blk_frozen BK207.out 5
   have hfz34_6 := blk_frozen BK207.out 6
   go_wp2
   repeat (go_quiet (fail); try go_wp2)
   go_meet
   case rel => exact ⟨_, (true), (by first | rfl | (simp; done) | (simp [*]; done) | (simp only [i64_w]; done) | (simp [i64_w, Int.tdiv_eq_ediv_of_nonneg]; done)), H', ⟨by first | omega | exact Nat.le_refl _⟩, ⟨by (with_reducible repeat (first | refine blk_drewN ?_ _ | refine blk_drew ?_ | refine blk_alloc ?_ _)); exact BK206.out⟩, ⟨by (with_reducible repeat (first | refine blk_drewN ?_ _ | refine blk_drew ?_ | refine blk_alloc ?_ _)); exact BK207.out⟩, ⟨by repeat (first | (with_reducible first | exact HB.out | apply below_alloc | apply pw_below_drewN | apply below_drew1 | refine below_set ?_ GE206.out | refine below_set ?_ GE207.out) | exact HB.out)⟩⟩
 case rest =>
  clear HC3
  try clear c1
  try clear c2
  try clear p2
  try clear c3
  try clear c6
  try clear c6b0
  try clear c6b1
  try clear c7
  try clear c7b0
  try clear c7b1
  try clear c9
  try clear c11
  try clear c12
  try clear c12b0
  try clear c12b1
  try clear c12b2
  try clear c13
  try clear c13b0
  try clear c13b1
  try clear c13b2
  try clear c14
  try clear c17
  try clear c18
  try clear c20
  try clear c23
  try clear c26
  try clear c29
  try clear c32
  try clear hcz15_0
  try clear hcz15_1
  try clear hcz15_2
  try clear hcz15_3
  try clear hcz15_4
  try clear hcz15_5
  try clear hcz15_6
  try clear hcz16_0
  try clear hcz16_1
  try clear hcz16_2
  try clear hcz16_3
  try clear hcz16_4
  try clear hcz16_5
  try clear hcz16_6
  try clear hcz18_0
  try clear hcz18_1
  try clear hcz18_2
  try clear hcz18_3
  try clear hcz18_4
  try clear hcz18_5
  try clear hcz18_6
  try clear hcz19_0
  try clear hcz19_1
  try clear hcz19_2
  try clear hcz19_3
  try clear hcz19_4
  try clear hcz19_5
  try clear hcz19_6
  try clear hcz21_0
  try clear hcz21_1
  try clear hcz21_2
  try clear hcz21_3
  try clear hcz21_4
  try clear hcz21_5
  try clear hcz21_6
  try clear hcz22_0
  try clear hcz22_1
  try clear hcz22_2
  try clear hcz22_3
  try clear hcz22_4
  try clear hcz22_5
  try clear hcz22_6
  try clear hcz24_0
  try clear hcz24_1
  try clear hcz24_2
  try clear hcz24_3
  try clear hcz24_4
  try clear hcz24_5
  try clear hcz24_6
  try clear hcz25_0
  try clear hcz25_1
  try clear hcz25_2
  try clear hcz25_3
  try clear hcz25_4
  try clear hcz25_5
  try clear hcz25_6
  try clear hcz27_0
  try clear hcz27_1
  try clear hcz27_2
  try clear hcz27_3
  try clear hcz27_4
  try clear hcz27_5
  try clear hcz27_6
  try clear hcz28_0
  try clear hcz28_1
  try clear hcz28_2
  try clear hcz28_3
  try clear hcz28_4
  try clear hcz28_5
  try clear hcz28_6
  try clear hcz30_0
  try clear hcz30_1
  try clear hcz30_2
  try clear hcz30_3
  try clear hcz30_4
  try clear hcz30_5
  try clear hcz30_6
  try clear hcz31_0
  try clear hcz31_1
  try clear hcz31_2
  try clear hcz31_3
  try clear hcz31_4
  try clear hcz31_5
  try clear hcz31_6
  try clear hcz33_0
  try clear hcz33_1
  try clear hcz33_2
  try clear hcz33_3
  try clear hcz33_4
  try clear hcz33_5
  try clear hcz33_6
  try clear hcz34_0
  try clear hcz34_1
  try clear hcz34_2
  try clear hcz34_3
  try clear hcz34_4
  try clear hcz34_5
  try clear hcz34_6
  try clear hfz15_0
  try clear hfz15_1
  try clear hfz15_2
  try clear hfz15_3
  try clear hfz15_4
  try clear hfz15_5
  try clear hfz15_6
  try clear hfz16_0
  try clear hfz16_1
  try clear hfz16_2
  try clear hfz16_3
  try clear hfz16_4
  try clear hfz16_5
  try clear hfz16_6
  try clear hfz18_0
  try clear hfz18_1
  try clear hfz18_2
  try clear hfz18_3
  try clear hfz18_4
  try clear hfz18_5
  try clear hfz18_6
  try clear hfz19_0
  try clear hfz19_1
  try clear hfz19_2
  try clear hfz19_3
  try clear hfz19_4
  try clear hfz19_5
  try clear hfz19_6
  try clear hfz21_0
  try clear hfz21_1
  try clear hfz21_2
  try clear hfz21_3
  try clear hfz21_4
  try clear hfz21_5
  try clear hfz21_6
  try clear hfz22_0
  try clear hfz22_1
  try clear hfz22_2
  try clear hfz22_3
  try clear hfz22_4
  try clear hfz22_5
  try clear hfz22_6
  try clear hfz24_0
  try clear hfz24_1
  try clear hfz24_2
  try clear hfz24_3
  try clear hfz24_4
  try clear hfz24_5
  try clear hfz24_6
  try clear hfz25_0
  try clear hfz25_1
  try clear hfz25_2
  try clear hfz25_3
  try clear hfz25_4
  try clear hfz25_5
  try clear hfz25_6
  try clear hfz27_0
  try clear hfz27_1
  try clear hfz27_2
  try clear hfz27_3
  try clear hfz27_4
  try clear hfz27_5
  try clear hfz27_6
  try clear hfz28_0
  try clear hfz28_1
  try clear hfz28_2
  try clear hfz28_3
  try clear hfz28_4
  try clear hfz28_5
  try clear hfz28_6
  try clear hfz30_0
  try clear hfz30_1
  try clear hfz30_2
  try clear hfz30_3
  try clear hfz30_4
  try clear hfz30_5
  try clear hfz30_6
  try clear hfz31_0
  try clear hfz31_1
  try clear hfz31_2
  try clear hfz31_3
  try clear hfz31_4
  try clear hfz31_5
  try clear hfz31_6
  try clear hfz33_0
  try clear hfz33_1
  try clear hfz33_2
  try clear hfz33_3
  try clear hfz33_4
  try clear hfz33_5
  try clear hfz33_6
  try clear hfz34_0
  try clear hfz34_1
  try clear hfz34_2
  try clear hfz34_3
  try clear hfz34_4
  try clear hfz34_5
  try clear hfz34_6
  obtain ⟨kq, x62_2, rfl, HA, HJ2, BK206, BK207, HB⟩ := hcut
  cases kq with
  | zero => exact absurd HA.out (by simp [berthref20_Same.j0])
  | succ kj2 =>
   have H := HA.out
   clear HA
   simp only [berthref20_Same.j0] at H
   by_cases c35 : x62_2 = true
   ·
    subst c35
    have H1 : (some false) = some r := by rw [if_pos rfl] at H; exact H
    clear H
    have H := H1
    clear H1
    obtain rfl := Option.some.inj H
    go_wp2
    repeat (go_quiet (fail); try go_wp2)
    go_ret
    exact ⟨by first | rfl | (simp [errW_none, errW_some] <;> rfl) | (simp [*, errW_none, errW_some] <;> rfl), by repeat (first | (with_reducible first | exact HB.out | apply below_alloc | apply pw_below_drewN | apply below_drew1 | refine below_set ?_ GE206.out | refine below_set ?_ GE207.out) | exact HB.out)⟩
   ·
    replace c35 := Bool.eq_false_iff.mpr c35
    subst c35
    have H1 : (berthref20_Same.l0 kj2 0 l0_0 l0_1 l0_2 l0_3 l0_4 a0_5 a0_6 l1_0 l1_1 l1_2 l1_3 l1_4 a1_5 a1_6) = some r := by rw [if_neg (show ¬ (false = true) by decide)] at H; exact H
    clear H
    have H := H1
    clear H1
    have H' := Aside0.mk H
    clear H
    go_wp2
    repeat (go_quiet (fail); try go_wp2)
    go_loopg [5] kj2 (fun kq v5 w' => ∃ (x5_2 : Int), v5 = .int .i64 x5_2 ∧ Aside0 (berthref20_Same.l0 kq x5_2 l0_0 l0_1 l0_2 l0_3 l0_4 a0_5 a0_6 l1_0 l1_1 l1_2 l1_3 l1_4 a1_5 a1_6 = some r) ∧ Aside0 (kq ≤ kj2) ∧ Aside0 (w'.heap[gb206]? = some (.cells #[(.slice A0_0 l0_0.length c0_0), (.slice A0_1 l0_1.length c0_1), (.slice A0_2 l0_2.length c0_2), (.slice A0_3 l0_3.length c0_3), (.slice A0_4 l0_4.length c0_4), .int .i64 a0_5, .int .i64 a0_6] 32 (0, 0))) ∧ Aside0 (w'.heap[gb207]? = some (.cells #[(.slice A1_0 l1_0.length c1_0), (.slice A1_1 l1_1.length c1_1), (.slice A1_2 l1_2.length c1_2), (.slice A1_3 l1_3.length c1_3), (.slice A1_4 l1_4.length c1_4), .int .i64 a1_5, .int .i64 a1_6] 32 (0, 0))) ∧ Aside0 (Below w.heap.size w w'))
    case atStart => exact ⟨(0), (by first | rfl | (simp; done) | (simp [*]; done) | (simp only [i64_w]; done) | (simp [i64_w, Int.tdiv_eq_ediv_of_nonneg]; done)), H', ⟨Nat.le_refl _⟩, ⟨by (with_reducible repeat (first | refine blk_drewN ?_ _ | refine blk_drew ?_ | refine blk_alloc ?_ _)); exact BK206.out⟩, ⟨by (with_reducible repeat (first | refine blk_drewN ?_ _ | refine blk_drew ?_ | refine blk_alloc ?_ _)); exact BK207.out⟩, ⟨by repeat (first | (with_reducible first | exact HB.out | apply below_alloc | apply pw_below_drewN | apply below_drew1 | refine below_set ?_ GE206.out | refine below_set ?_ GE207.out) | exact HB.out)⟩⟩
    case round =>
     clear H'
     try clear c1
     try clear c2
     try clear p2
     try clear c3
     try clear c6
     try clear c6b0
     try clear c6b1
     try clear c7
     try clear c7b0
     try clear c7b1
     try clear c9
     try clear c11
     try clear c12
     try clear c12b0
     try clear c12b1
     try clear c12b2
     try clear c13
     try clear c13b0
     try clear c13b1
     try clear c13b2
     try clear c14
     try clear c17
     try clear c18
     try clear c20
     try clear c23
     try clear c26
     try clear c29
     try clear c32
     try clear c35
     try clear hcz15_0
     try clear hcz15_1
     try clear hcz15_2
     try clear hcz15_3
     try clear hcz15_4
     try clear hcz15_5
     try clear hcz15_6
     try clear hcz16_0
     try clear hcz16_1
     try clear hcz16_2
     try clear hcz16_3
     try clear hcz16_4
     try clear hcz16_5
     try clear hcz16_6
     try clear hcz18_0
     try clear hcz18_1
     try clear hcz18_2
     try clear hcz18_3
     try clear hcz18_4
     try clear hcz18_5
     try clear hcz18_6
     try clear hcz19_0
     try clear hcz19_1
     try clear hcz19_2
     try clear hcz19_3
     try clear hcz19_4
     try clear hcz19_5
     try clear hcz19_6
     try clear hcz21_0
     try clear hcz21_1
     try clear hcz21_2
     try clear hcz21_3
     try clear hcz21_4
     try clear hcz21_5
     try clear hcz21_6
     try clear hcz22_0
     try clear hcz22_1
     try clear hcz22_2
     try clear hcz22_3
     try clear hcz22_4
     try clear hcz22_5
     try clear hcz22_6
     try clear hcz24_0
     try clear hcz24_1
     try clear hcz24_2
     try clear hcz24_3
     try clear hcz24_4
     try clear hcz24_5
     try clear hcz24_6
     try clear hcz25_0
     try clear hcz25_1
     try clear hcz25_2
     try clear hcz25_3
     try clear hcz25_4
     try clear hcz25_5
     try clear hcz25_6
     try clear hcz27_0
     try clear hcz27_1
     try clear hcz27_2
     try clear hcz27_3
     try clear hcz27_4
     try clear hcz27_5
     try clear hcz27_6
     try clear hcz28_0
     try clear hcz28_1
     try clear hcz28_2
     try clear hcz28_3
     try clear hcz28_4
     try clear hcz28_5
     try clear hcz28_6
     try clear hcz30_0
     try clear hcz30_1
     try clear hcz30_2
     try clear hcz30_3
     try clear hcz30_4
     try clear hcz30_5
     try clear hcz30_6
     try clear hcz31_0
     try clear hcz31_1
     try clear hcz31_2
     try clear hcz31_3
     try clear hcz31_4
     try clear hcz31_5
     try clear hcz31_6
     try clear hcz33_0
     try clear hcz33_1
     try clear hcz33_2
     try clear hcz33_3
     try clear hcz33_4
     try clear hcz33_5
     try clear hcz33_6
     try clear hcz34_0
     try clear hcz34_1
     try clear hcz34_2
     try clear hcz34_3
     try clear hcz34_4
     try clear hcz34_5
     try clear hcz34_6
     try clear hfz15_0
     try clear hfz15_1
     try clear hfz15_2
     try clear hfz15_3
     try clear hfz15_4
     try clear hfz15_5
     try clear hfz15_6
     try clear hfz16_0
     try clear hfz16_1
     try clear hfz16_2
     try clear hfz16_3
     try clear hfz16_4
     try clear hfz16_5
     try clear hfz16_6
     try clear hfz18_0
     try clear hfz18_1
     try clear hfz18_2
     try clear hfz18_3
     try clear hfz18_4
     try clear hfz18_5
     try clear hfz18_6
     try clear hfz19_0
     try clear hfz19_1
     try clear hfz19_2
     try clear hfz19_3
     try clear hfz19_4
     try clear hfz19_5
     try clear hfz19_6
     try clear hfz21_0
     try clear hfz21_1
     try clear hfz21_2
     try clear hfz21_3
     try clear hfz21_4
     try clear hfz21_5
     try clear hfz21_6
     try clear hfz22_0
     try clear hfz22_1
     try clear hfz22_2
     try clear hfz22_3
     try clear hfz22_4
     try clear hfz22_5
     try clear hfz22_6
     try clear hfz24_0
     try clear hfz24_1
     try clear hfz24_2
     try clear hfz24_3
     try clear hfz24_4
     try clear hfz24_5
     try clear hfz24_6
     try clear hfz25_0
     try clear hfz25_1
     try clear hfz25_2
     try clear hfz25_3
     try clear hfz25_4
     try clear hfz25_5
     try clear hfz25_6
     try clear hfz27_0
     try clear hfz27_1
     try clear hfz27_2
     try clear hfz27_3
     try clear hfz27_4
     try clear hfz27_5
     try clear hfz27_6
     try clear hfz28_0
     try clear hfz28_1
     try clear hfz28_2
     try clear hfz28_3
     try clear hfz28_4
     try clear hfz28_5
     try clear hfz28_6
     try clear hfz30_0
     try clear hfz30_1
     try clear hfz30_2
     try clear hfz30_3
     try clear hfz30_4
     try clear hfz30_5
     try clear hfz30_6
     try clear hfz31_0
     try clear hfz31_1
     try clear hfz31_2
     try clear hfz31_3
     try clear hfz31_4
     try clear hfz31_5
     try clear hfz31_6
     try clear hfz33_0
     try clear hfz33_1
     try clear hfz33_2
     try clear hfz33_3
     try clear hfz33_4
     try clear hfz33_5
     try clear hfz33_6
     try clear hfz34_0
     try clear hfz34_1
     try clear hfz34_2
     try clear hfz34_3
     try clear hfz34_4
     try clear hfz34_5
     try clear hfz34_6
     try clear p2
     obtain ⟨x5_2, rfl, HA, HK2, BK206, BK207, HB⟩ := hrel
     cases gk with
     | zero => exact absurd HA.out (by simp [berthref20_Same.l0])
     | succ k2 =>
      have H := HA.out
      clear HA
      simp only [berthref20_Same.l0] at H
      by_cases c36 : x5_2 < (l0_2.length : Int)
      ·
       rw [if_pos c36] at H
       have c36b0 : decide (x5_2 < (l0_2.length : Int)) = true := decide_eq_true c36
       clear c36
       by_cases c37 : 0 ≤ x5_2
       ·
        rw [if_pos c37] at H
        have c37b0 : decide (0 ≤ x5_2) = true := decide_eq_true c37
        clear c37
        by_cases c38 : x5_2 < (l1_2.length : Int)
        ·
         rw [if_pos c38] at H
         have c38b0 : decide (x5_2 < (l1_2.length : Int)) = true := decide_eq_true c38
         clear c38
         replace H := Option.bind_eq_some_iff.mp H
         obtain ⟨t212, A390, H⟩ := H
         replace H : (if t212 = true then (berthref20_Same.l0 k2 (wrap64 (x5_2 + 1)) l0_0 l0_1 l0_2 l0_3 l0_4 a0_5 a0_6 l1_0 l1_1 l1_2 l1_3 l1_4 a1_5 a1_6) else (some false)) = some r := H
         have A39 := Aside0.mk A390
         clear A390
         by_cases c40 : t212 = true
         ·
          subst c40
          have H1 : (berthref20_Same.l0 k2 (wrap64 (x5_2 + 1)) l0_0 l0_1 l0_2 l0_3 l0_4 a0_5 a0_6 l1_0 l1_1 l1_2 l1_3 l1_4 a1_5 a1_6) = some r := by rw [if_pos rfl] at H; exact H
          clear H
          have H := H1
          clear H1
          have H' := Aside0.mk H
          clear H
          have hnb41 := NB206_207.out
          have hnc41 := NB207_206.out
          have hcz42_0 : wr.cell? ⟨gb206, 0, none⟩ = some (.slice A0_0 l0_0.length c0_0) := (blk_cell BK206.out 0).trans rfl
          have hcz42_1 : wr.cell? ⟨gb206, 1, none⟩ = some (.slice A0_1 l0_1.length c0_1) := (blk_cell BK206.out 1).trans rfl
          have hcz42_2 : wr.cell? ⟨gb206, 2, none⟩ = some (.slice A0_2 l0_2.length c0_2) := (blk_cell BK206.out 2).trans rfl
          have hcz42_3 : wr.cell? ⟨gb206, 3, none⟩ = some (.slice A0_3 l0_3.length c0_3) := (blk_cell BK206.out 3).trans rfl
          have hcz42_4 : wr.cell? ⟨gb206, 4, none⟩ = some (.slice A0_4 l0_4.length c0_4) := (blk_cell BK206.out 4).trans rfl
          have hcz42_5 : wr.cell? ⟨gb206, 5, none⟩ = some (.int .i64 a0_5) := (blk_cell BK206.out 5).trans rfl
          have hcz42_6 : wr.cell? ⟨gb206, 6, none⟩ = some (.int .i64 a0_6) := (blk_cell BK206.out 6).trans rfl
          have hfz42_0 := blk_frozen BK206.out 0
          have hfz42_1 := blk_frozen BK206.out 1
          have hfz42_2 := blk_frozen BK206.out 2
          have hfz42_3 := blk_frozen BK206.out 3
          have hfz42_4 := blk_frozen BK206.out 4
          have hfz42_5 := blk_frozen BK206.out 5
          have hfz42_6 := blk_frozen BK206.out 6
          have p210 : 0 ≤ (x5_2 : Int) := of_decide_eq_true (by first | (with_reducible assumption) | assumption)
          have q210 : x5_2 < (l0_2.length : Int) := of_decide_eq_true (by first | (with_reducible assumption) | assumption)
          obtain ⟨ad210, A210_0, c210_0, e210, hx210_0, hl210_0, hi210_0⟩ := at_L2 HR0_2.out x5_2 p210 q210
          cases e210
          replace hx210_0 := (HB.out.cell (World.block_lt_of_cell? w _ hx210_0)).trans hx210_0
          have HR210_0 := Aside0.mk hi210_0
          have HC210_0 := Aside0.mk hl210_0
          clear hi210_0 hl210_0
          replace p210 := eq_true p210
          replace q210 := eq_true q210
          have hcz43_0 : wr.cell? ⟨gb207, 0, none⟩ = some (.slice A1_0 l1_0.length c1_0) := (blk_cell BK207.out 0).trans rfl
          have hcz43_1 : wr.cell? ⟨gb207, 1, none⟩ = some (.slice A1_1 l1_1.length c1_1) := (blk_cell BK207.out 1).trans rfl
          have hcz43_2 : wr.cell? ⟨gb207, 2, none⟩ = some (.slice A1_2 l1_2.length c1_2) := (blk_cell BK207.out 2).trans rfl
          have hcz43_3 : wr.cell? ⟨gb207, 3, none⟩ = some (.slice A1_3 l1_3.length c1_3) := (blk_cell BK207.out 3).trans rfl
          have hcz43_4 : wr.cell? ⟨gb207, 4, none⟩ = some (.slice A1_4 l1_4.length c1_4) := (blk_cell BK207.out 4).trans rfl
          have hcz43_5 : wr.cell? ⟨gb207, 5, none⟩ = some (.int .i64 a1_5) := (blk_cell BK207.out 5).trans rfl
          have hcz43_6 : wr.cell? ⟨gb207, 6, none⟩ = some (.int .i64 a1_6) := (blk_cell BK207.out 6).trans rfl
          have hfz43_0 := blk_frozen BK207.out 0
          have hfz43_1 := blk_frozen BK207.out 1
          have hfz43_2 := blk_frozen BK207.out 2
          have hfz43_3 := blk_frozen BK207.out 3
          have hfz43_4 := blk_frozen BK207.out 4
          have hfz43_5 := blk_frozen BK207.out 5
          have hfz43_6 := blk_frozen BK207.out 6
          have p211 : 0 ≤ (x5_2 : Int) := of_decide_eq_true (by first | (with_reducible assumption) | assumption)
          have q211 : x5_2 < (l1_2.length : Int) := of_decide_eq_true (by first | (with_reducible assumption) | assumption)
          obtain ⟨ad211, A211_0, c211_0, e211, hx211_0, hl211_0, hi211_0⟩ := at_L2 HR1_2.out x5_2 p211 q211
          cases e211
          replace hx211_0 := (HB.out.cell (World.block_lt_of_cell? w _ hx211_0)).trans hx211_0
          have HR211_0 := Aside0.mk hi211_0
          have HC211_0 := Aside0.mk hl211_0
          clear hi211_0 hl211_0
          replace p211 := eq_true p211
          replace q211 := eq_true q211
          go_wp2_with (first | (go_at_call 50; (with_reducible refine (berthref20_sameTexts.calls k2 _ _ (rd_L2 l0_2 x5_2) _ _ (rd_L2 l1_2 x5_2) true _ ?side1 ?side2 ?side3 ?side4 A39.out).mono ?_); (case side1 => repeat (first | exact (Kd.C_below HR210_0.out HB.out) | (with_reducible refine Kd.C_alloc ?_ _) | (with_reducible refine Kd.C_drewN ?_ _) | (with_reducible refine Kd.C_drew ?_))); (case side2 => exact HC210_0.out); (case side3 => repeat (first | exact (Kd.C_below HR211_0.out HB.out) | (with_reducible refine Kd.C_alloc ?_ _) | (with_reducible refine Kd.C_drewN ?_ _) | (with_reducible refine Kd.C_drew ?_))); (case side4 => exact HC211_0.out); rintro e w' ⟨rfl, ⟨nd, rfl⟩⟩; (try first | exact ⟨rfl, _, World.drewN_drewN _ _ _⟩ | exact ⟨rfl, _, Eq.trans (World.drewN_drewN _ _ _) (congrArg (World.drewN _) (Nat.add_assoc _ _ _))⟩)))
          repeat (go_quiet (first | (go_at_call 50; (with_reducible refine (berthref20_sameTexts.calls k2 _ _ (rd_L2 l0_2 x5_2) _ _ (rd_L2 l1_2 x5_2) true _ ?side1 ?side2 ?side3 ?side4 A39.out).mono ?_); (case side1 => repeat (first | exact (Kd.C_below HR210_0.out HB.out) | (with_reducible refine Kd.C_alloc ?_ _) | (with_reducible refine Kd.C_drewN ?_ _) | (with_reducible refine Kd.C_drew ?_))); (case side2 => exact HC210_0.out); (case side3 => repeat (first | exact (Kd.C_below HR211_0.out HB.out) | (with_reducible refine Kd.C_alloc ?_ _) | (with_reducible refine Kd.C_drewN ?_ _) | (with_reducible refine Kd.C_drew ?_))); (case side4 => exact HC211_0.out); rintro e w' ⟨rfl, ⟨nd, rfl⟩⟩; (try first | exact ⟨rfl, _, World.drewN_drewN _ _ _⟩ | exact ⟨rfl, _, Eq.trans (World.drewN_drewN _ _ _) (congrArg (World.drewN _) (Nat.add_assoc _ _ _))⟩))); try go_wp2_with (first | (go_at_call 50; (with_reducible refine (berthref20_sameTexts.calls k2 _ _ (rd_L2 l0_2 x5_2) _ _ (rd_L2 l1_2 x5_2) true _ ?side1 ?side2 ?side3 ?side4 A39.out).mono ?_); (case side1 => repeat (first | exact (Kd.C_below HR210_0.out HB.out) | (with_reducible refine Kd.C_alloc ?_ _) | (with_reducible refine Kd.C_drewN ?_ _) | (with_reducible refine Kd.C_drew ?_))); (case side2 => exact HC210_0.out); (case side3 => repeat (first | exact (Kd.C_below HR211_0.out HB.out) | (with_reducible refine Kd.C_alloc ?_ _) | (with_reducible refine Kd.C_drewN ?_ _) | (with_reducible refine Kd.C_drew ?_))); (case side4 => exact HC211_0.out); rintro e w' ⟨rfl, ⟨nd, rfl⟩⟩; (try first | exact ⟨rfl, _, World.drewN_drewN _ _ _⟩ | exact ⟨rfl, _, Eq.trans (World.drewN_drewN _ _ _) (congrArg (World.drewN _) (Nat.add_assoc _ _ _))⟩))))
          go_roundg k2
          case measure => have := HJ2.out; have := HK2.out; omega
          case rel => exact ⟨(wrap64 (x5_2 + 1)), (by first | rfl | (simp; done) | (simp [*]; done) | (simp only [i64_w]; done) | (simp [i64_w, Int.tdiv_eq_ediv_of_nonneg]; done)), H', ⟨by have := HJ2.out; have := HK2.out; omega⟩, ⟨by (with_reducible repeat (first | refine blk_drewN ?_ _ | refine blk_drew ?_ | refine blk_alloc ?_ _)); exact BK206.out⟩, ⟨by (with_reducible repeat (first | refine blk_drewN ?_ _ | refine blk_drew ?_ | refine blk_alloc ?_ _)); exact BK207.out⟩, ⟨by repeat (first | (with_reducible first | exact HB.out | apply below_alloc | apply pw_below_drewN | apply below_drew1 | refine below_set ?_ GE206.out | refine below_set ?_ GE207.out) | exact HB.out)⟩⟩
         ·
          replace c40 := Bool.eq_false_iff.mpr c40
          subst c40
          have H1 : (some false) = some r := by rw [if_neg (show ¬ (false = true) by decide)] at H; exact H
          clear H
          have H := H1
          clear H1
          obtain rfl := Option.some.inj H
          have hnb44 := NB206_207.out
          have hnc44 := NB207_206.out
          have hcz45_0 : wr.cell? ⟨gb206, 0, none⟩ = some (.slice A0_0 l0_0.length c0_0) := (blk_cell BK206.out 0).trans rfl
          have hcz45_1 : wr.cell? ⟨gb206, 1, none⟩ = some (.slice A0_1 l0_1.length c0_1) := (blk_cell BK206.out 1).trans rfl
          have hcz45_2 : wr.cell? ⟨gb206, 2, none⟩ = some (.slice A0_2 l0_2.length c0_2) := (blk_cell BK206.out 2).trans rfl
          have hcz45_3 : wr.cell? ⟨gb206, 3, none⟩ = some (.slice A0_3 l0_3.length c0_3) := (blk_cell BK206.out 3).trans rfl
          have hcz45_4 : wr.cell? ⟨gb206, 4, none⟩ = some (.slice A0_4 l0_4.length c0_4) := (blk_cell BK206.out 4).trans rfl
          have hcz45_5 : wr.cell? ⟨gb206, 5, none⟩ = some (.int .i64 a0_5) := (blk_cell BK206.out 5).trans rfl
          have hcz45_6 : wr.cell? ⟨gb206, 6, none⟩ = some (.int .i64 a0_6) := (blk_cell BK206.out 6).trans rfl
          have hfz45_0 := blk_frozen BK206.out 0
          have hfz45_1 := blk_frozen BK206.out 1
          have hfz45_2 := blk_frozen BK206.out 2
          have hfz45_3 := blk_frozen BK206.out 3
          have hfz45_4 := blk_frozen BK206.out 4
          have hfz45_5 := blk_frozen BK206.out 5
          have hfz45_6 := blk_frozen BK206.out 6
          have p210 : 0 ≤ (x5_2 : Int) := of_decide_eq_true (by first | (with_reducible assumption) | assumption)
          have q210 : x5_2 < (l0_2.length : Int) := of_decide_eq_true (by first | (with_reducible assumption) | assumption)
          obtain ⟨ad210, A210_0, c210_0, e210, hx210_0, hl210_0, hi210_0⟩ := at_L2 HR0_2.out x5_2 p210 q210
          cases e210
          replace hx210_0 := (HB.out.cell (World.block_lt_of_cell? w _ hx210_0)).trans hx210_0
          have HR210_0 := Aside0.mk hi210_0
          have HC210_0 := Aside0.mk hl210_0
          clear hi210_0 hl210_0
          replace p210 := eq_true p210
          replace q210 := eq_true q210
          have hcz46_0 : wr.cell? ⟨gb207, 0, none⟩ = some (.slice A1_0 l1_0.length c1_0) := (blk_cell BK207.out 0).trans rfl
          have hcz46_1 : wr.cell? ⟨gb207, 1, none⟩ = some (.slice A1_1 l1_1.length c1_1) := (blk_cell BK207.out 1).trans rfl
          have hcz46_2 : wr.cell? ⟨gb207, 2, none⟩ = some (.slice A1_2 l1_2.length c1_2) := (blk_cell BK207.out 2).trans rfl
          have hcz46_3 : wr.cell? ⟨gb207, 3, none⟩ = some (.slice A1_3 l1_3.length c1_3) := (blk_cell BK207.out 3).trans rfl
          have hcz46_4 : wr.cell? ⟨gb207, 4, none⟩ = some (.slice A1_4 l1_4.length c1_4) := (blk_cell BK207.out 4).trans rfl
          have hcz46_5 : wr.cell? ⟨gb207, 5, none⟩ = some (.int .i64 a1_5) := (blk_cell BK207.out 5).trans rfl
          have hcz46_6 : wr.cell? ⟨gb207, 6, none⟩ = some (.int .i64 a1_6) := (blk_cell BK207.out 6).trans rfl
          have hfz46_0 := blk_frozen BK207.out 0
          have hfz46_1 := blk_frozen BK207.out 1
          have hfz46_2 := blk_frozen BK207.out 2
          have hfz46_3 := blk_frozen BK207.out 3
          have hfz46_4 := blk_frozen BK207.out 4
          have hfz46_5 := blk_frozen BK207.out 5
          have hfz46_6 := blk_frozen BK207.out 6
          have p211 : 0 ≤ (x5_2 : Int) := of_decide_eq_true (by first | (with_reducible assumption) | assumption)
          have q211 : x5_2 < (l1_2.length : Int) := of_decide_eq_true (by first | (with_reducible assumption) | assumption)
          obtain ⟨ad211, A211_0, c211_0, e211, hx211_0, hl211_0, hi211_0⟩ := at_L2 HR1_2.out x5_2 p211 q211
          cases e211
          replace hx211_0 := (HB.out.cell (World.block_lt_of_cell? w _ hx211_0)).trans hx211_0
          have HR211_0 := Aside0.mk hi211_0
          have HC211_0 := Aside0.mk hl211_0
          clear hi211_0 hl211_0
          replace p211 := eq_true p211
          replace q211 := eq_true q211
          go_wp2_with (first | (go_at_call 50; (with_reducible refine (berthref20_sameTexts.calls k2 _ _ (rd_L2 l0_2 x5_2) _ _ (rd_L2 l1_2 x5_2) false _ ?side1 ?side2 ?side3 ?side4 A39.out).mono ?_); (case side1 => repeat (first | exact (Kd.C_below HR210_0.out HB.out) | (with_reducible refine Kd.C_alloc ?_ _) | (with_reducible refine Kd.C_drewN ?_ _) | (with_reducible refine Kd.C_drew ?_))); (case side2 => exact HC210_0.out); (case side3 => repeat (first | exact (Kd.C_below HR211_0.out HB.out) | (with_reducible refine Kd.C_alloc ?_ _) | (with_reducible refine Kd.C_drewN ?_ _) | (with_reducible refine Kd.C_drew ?_))); (case side4 => exact HC211_0.out); rintro e w' ⟨rfl, ⟨nd, rfl⟩⟩; (try first | exact ⟨rfl, _, World.drewN_drewN _ _ _⟩ | exact ⟨rfl, _, Eq.trans (World.drewN_drewN _ _ _) (congrArg (World.drewN _) (Nat.add_assoc _ _ _))⟩)))
          repeat (go_quiet (first | (go_at_call 50; (with_reducible refine (berthref20_sameTexts.calls k2 _ _ (rd_L2 l0_2 x5_2) _ _ (rd_L2 l1_2 x5_2) false _ ?side1 ?side2 ?side3 ?side4 A39.out).mono ?_); (case side1 => repeat (first | exact (Kd.C_below HR210_0.out HB.out) | (with_reducible refine Kd.C_alloc ?_ _) | (with_reducible refine Kd.C_drewN ?_ _) | (with_reducible refine Kd.C_drew ?_))); (case side2 => exact HC210_0.out); (case side3 => repeat (first | exact (Kd.C_below HR211_0.out HB.out) | (with_reducible refine Kd.C_alloc ?_ _) | (with_reducible refine Kd.C_drewN ?_ _) | (with_reducible refine Kd.C_drew ?_))); (case side4 => exact HC211_0.out); rintro e w' ⟨rfl, ⟨nd, rfl⟩⟩; (try first | exact ⟨rfl, _, World.drewN_drewN _ _ _⟩ | exact ⟨rfl, _, Eq.trans (World.drewN_drewN _ _ _) (congrArg (World.drewN _) (Nat.add_assoc _ _ _))⟩))); try go_wp2_with (first | (go_at_call 50; (with_reducible refine (berthref20_sameTexts.calls k2 _ _ (rd_L2 l0_2 x5_2) _ _ (rd_L2 l1_2 x5_2) false _ ?side1 ?side2 ?side3 ?side4 A39.out).mono ?_); (case side1 => repeat (first | exact (Kd.C_below HR210_0.out HB.out) | (with_reducible refine Kd.C_alloc ?_ _) | (with_reducible refine Kd.C_drewN ?_ _) | (with_reducible refine Kd.C_drew ?_))); (case side2 => exact HC210_0.out); (case side3 => repeat (first | exact (Kd.C_below HR211_0.out HB.out) | (with_reducible refine Kd.C_alloc ?_ _) | (with_reducible refine Kd.C_drewN ?_ _) | (with_reducible refine Kd.C_drew ?_))); (case side4 => exact HC211_0.out); rintro e w' ⟨rfl, ⟨nd, rfl⟩⟩; (try first | exact ⟨rfl, _, World.drewN_drewN _ _ _⟩ | exact ⟨rfl, _, Eq.trans (World.drewN_drewN _ _ _) (congrArg (World.drewN _) (Nat.add_assoc _ _ _))⟩))))
          go_ret
          exact ⟨by first | rfl | (simp [errW_none, errW_some] <;> rfl) | (simp [*, errW_none, errW_some] <;> rfl), by repeat (first | (with_reducible first | exact HB.out | apply below_alloc | apply pw_below_drewN | apply below_drew1 | refine below_set ?_ GE206.out | refine below_set ?_ GE207.out) | exact HB.out)⟩
        ·
         rw [if_neg c38] at H
         exact absurd H (by simp)
       ·
        rw [if_neg c37] at H
        exact absurd H (by simp)
      ·
       rw [if_neg c36] at H
       have c36b0 : decide (x5_2 < (l0_2.length : Int)) = false := decide_eq_false c36
       clear c36
       have H' := Aside0.mk H
       clear H
       have hnb47 := NB206_207.out
       have hnc47 := NB207_206.out
       have hcz48_0 : wr.cell? ⟨gb206, 0, none⟩ = some (.slice A0_0 l0_0.length c0_0) := (blk_cell BK206.out 0).trans rfl
       have hcz48_1 : wr.cell? ⟨gb206, 1, none⟩ = some (.slice A0_1 l0_1.length c0_1) := (blk_cell BK206.out 1).trans rfl
       have hcz48_2 : wr.cell? ⟨gb206, 2, none⟩ = some (.slice A0_2 l0_2.length c0_2) := (blk_cell BK206.out 2).trans rfl
       have hcz48_3 : wr.cell? ⟨gb206, 3, none⟩ = some (.slice A0_3 l0_3.length c0_3) := (blk_cell BK206.out 3).trans rfl
       have hcz48_4 : wr.cell? ⟨gb206, 4, none⟩ = some (.slice A0_4 l0_4.length c0_4) := (blk_cell BK206.out 4).trans rfl
       have hcz48_5 : wr.cell? ⟨gb206, 5, none⟩ = some (.int .i64 a0_5) := (blk_cell BK206.out 5).trans rfl
       have hcz48_6 : wr.cell? ⟨gb206, 6, none⟩ = some (.int .i64 a0_6) := (blk_cell BK206.out 6).trans rfl
       have hfz48_0 := blk_frozen BK206.out 0
       have hfz48_1 := blk_frozen BK206.out 1
       have hfz48_2 := blk_frozen BK206.out 2
       have hfz48_3 := blk_frozen BK206.out 3
       have hfz48_4 := blk_frozen BK206.out 4
       have hfz48_5 := blk_frozen BK206.out 5
       have hfz48_6 := blk_frozen BK206.out 6
       go_wp2
       repeat (go_quiet (fail); try go_wp2)
       go_loopg [6] k2 (fun kq v6 w' => ∃ (x6_3 : Int), v6 = .int .i64 x6_3 ∧ Aside0 (berthref20_Same.l1 kq x6_3 l0_0 l0_1 l0_2 l0_3 l0_4 a0_5 a0_6 l1_0 l1_1 l1_2 l1_3 l1_4 a1_5 a1_6 = some r) ∧ Aside0 (kq ≤ k2) ∧ Aside0 (w'.heap[gb206]? = some (.cells #[(.slice A0_0 l0_0.length c0_0), (.slice A0_1 l0_1.length c0_1), (.slice A0_2 l0_2.length c0_2), (.slice A0_3 l0_3.length c0_3), (.slice A0_4 l0_4.length c0_4), .int .i64 a0_5, .int .i64 a0_6] 32 (0, 0))) ∧ Aside0 (w'.heap[gb207]? = some (.cells #[(.slice A1_0 l1_0.length c1_0), (.slice A1_1 l1_1.length c1_1), (.slice A1_2 l1_2.length c1_2), (.slice A1_3 l1_3.length c1_3), (.slice A1_4 l1_4.length c1_4), .int .i64 a1_5, .int .i64 a1_6] 32 (0, 0))) ∧ Aside0 (Below w.heap.size w w'))
       case atStart => exact ⟨(0), (by first | rfl | (simp; done) | (simp [*]; done) | (simp only [i64_w]; done) | (simp [i64_w, Int.tdiv_eq_ediv_of_nonneg]; done)), H', ⟨Nat.le_refl _⟩, ⟨by (with_reducible repeat (first | refine blk_drewN ?_ _ | refine blk_drew ?_ | refine blk_alloc ?_ _)); exact BK206.out⟩, ⟨by (with_reducible repeat (first | refine blk_drewN ?_ _ | refine blk_drew ?_ | refine blk_alloc ?_ _)); exact BK207.out⟩, ⟨by repeat (first | (with_reducible first | exact HB.out | apply below_alloc | apply pw_below_drewN | apply below_drew1 | refine below_set ?_ GE206.out | refine below_set ?_ GE207.out) | exact HB.out)⟩⟩
       case round =>
        clear H'
        try clear c1
        try clear c2
        try clear p2
        try clear q2
        try clear hx2
        try clear c3
        try clear c4
        try clear c6
        try clear c6b0
        try clear c6b1
        try clear p6
        try clear c7
        try clear c7b0
        try clear c7b1
        try clear c9
        try clear c11
        try clear c12
        try clear c12b0
        try clear c12b1
        try clear c12b2
        try clear c13
        try clear c13b0
        try clear c13b1
        try clear c13b2
        try clear c14
        try clear c17
        try clear c18
        try clear c20
        try clear c21
        try clear p21
        try clear q21
        try clear hx21
        try clear c23
        try clear c26
        try clear c29
        try clear c32
        try clear c35
        try clear c36
        try clear c36b0
        try clear c37
        try clear c37b0
        try clear c38
        try clear c38b0
        try clear c40
        try clear c41
        try clear c44
        try clear c47
        try clear hcz15_0
        try clear hcz15_1
        try clear hcz15_2
        try clear hcz15_3
        try clear hcz15_4
        try clear hcz15_5
        try clear hcz15_6
        try clear hcz16_0
        try clear hcz16_1
        try clear hcz16_2
        try clear hcz16_3
        try clear hcz16_4
        try clear hcz16_5
        try clear hcz16_6
        try clear hcz18_0
        try clear hcz18_1
        try clear hcz18_2
        try clear hcz18_3
        try clear hcz18_4
        try clear hcz18_5
        try clear hcz18_6
        try clear hcz19_0
        try clear hcz19_1
        try clear hcz19_2
        try clear hcz19_3
        try clear hcz19_4
        try clear hcz19_5
        try clear hcz19_6
        try clear hcz21_0
        try clear hcz21_1
        try clear hcz21_2
        try clear hcz21_3
        try clear hcz21_4
        try clear hcz21_5
        try clear hcz21_6
        try clear hcz22_0
        try clear hcz22_1
        try clear hcz22_2
        try clear hcz22_3
        try clear hcz22_4
        try clear hcz22_5
        try clear hcz22_6
        try clear hcz24_0
        try clear hcz24_1
        try clear hcz24_2
        try clear hcz24_3
        try clear hcz24_4
        try clear hcz24_5
        try clear hcz24_6
        try clear hcz25_0
        try clear hcz25_1
        try clear hcz25_2
        try clear hcz25_3
        try clear hcz25_4
        try clear hcz25_5
        try clear hcz25_6
        try clear hcz27_0
        try clear hcz27_1
        try clear hcz27_2
        try clear hcz27_3
        try clear hcz27_4
        try clear hcz27_5
        try clear hcz27_6
        try clear hcz28_0
        try clear hcz28_1
        try clear hcz28_2
        try clear hcz28_3
        try clear hcz28_4
        try clear hcz28_5
        try clear hcz28_6
        try clear hcz30_0
        try clear hcz30_1
        try clear hcz30_2
        try clear hcz30_3
        try clear hcz30_4
        try clear hcz30_5
        try clear hcz30_6
        try clear hcz31_0
        try clear hcz31_1
        try clear hcz31_2
        try clear hcz31_3
        try clear hcz31_4
        try clear hcz31_5
        try clear hcz31_6
        try clear hcz33_0
        try clear hcz33_1
        try clear hcz33_2
        try clear hcz33_3
        try clear hcz33_4
        try clear hcz33_5
        try clear hcz33_6
        try clear hcz34_0
        try clear hcz34_1
        try clear hcz34_2
        try clear hcz34_3
        try clear hcz34_4
        try clear hcz34_5
        try clear hcz34_6
        try clear hcz42_0
        try clear hcz42_1
        try clear hcz42_2
        try clear hcz42_3
        try clear hcz42_4
        try clear hcz42_5
        try clear hcz42_6
        try clear hcz43_0
        try clear hcz43_1
        try clear hcz43_2
        try clear hcz43_3
        try clear hcz43_4
        try clear hcz43_5
        try clear hcz43_6
        try clear hcz45_0
        try clear hcz45_1
        try clear hcz45_2
        try clear hcz45_3
        try clear hcz45_4
        try clear hcz45_5
        try clear hcz45_6
        try clear hcz46_0
        try clear hcz46_1
        try clear hcz46_2
        try clear hcz46_3
        try clear hcz46_4
        try clear hcz46_5
        try clear hcz46_6
        try clear hcz48_0
        try clear hcz48_1
        try clear hcz48_2
        try clear hcz48_3
        try clear hcz48_4
        try clear hcz48_5
        try clear hcz48_6
        try clear hfz15_0
        try clear hfz15_1
        try clear hfz15_2
        try clear hfz15_3
        try clear hfz15_4
        try clear hfz15_5
        try clear hfz15_6
        try clear hfz16_0
        try clear hfz16_1
        try clear hfz16_2
        try clear hfz16_3
        try clear hfz16_4
        try clear hfz16_5
        try clear hfz16_6
        try clear hfz18_0
        try clear hfz18_1
        try clear hfz18_2
        try clear hfz18_3
        try clear hfz18_4
        try clear hfz18_5
        try clear hfz18_6
        try clear hfz19_0
        try clear hfz19_1
        try clear hfz19_2
        try clear hfz19_3
        try clear hfz19_4
        try clear hfz19_5
        try clear hfz19_6
        try clear hfz21_0
        try clear hfz21_1
        try clear hfz21_2
        try clear hfz21_3
        try clear hfz21_4
        try clear hfz21_5
        try clear hfz21_6
        try clear hfz22_0
        try clear hfz22_1
        try clear hfz22_2
        try clear hfz22_3
        try clear hfz22_4
        try clear hfz22_5
        try clear hfz22_6
        try clear hfz24_0
        try clear hfz24_1
        try clear hfz24_2
        try clear hfz24_3
        try clear hfz24_4
        try clear hfz24_5
        try clear hfz24_6
        try clear hfz25_0
        try clear hfz25_1
        try clear hfz25_2
        try clear hfz25_3
        try clear hfz25_4
        try clear hfz25_5
        try clear hfz25_6
        try clear hfz27_0
        try clear hfz27_1
        try clear hfz27_2
        try clear hfz27_3
        try clear hfz27_4
        try clear hfz27_5
        try clear hfz27_6
        try clear hfz28_0
        try clear hfz28_1
        try clear hfz28_2
        try clear hfz28_3
        try clear hfz28_4
        try clear hfz28_5
        try clear hfz28_6
        try clear hfz30_0
        try clear hfz30_1
        try clear hfz30_2
        try clear hfz30_3
        try clear hfz30_4
        try clear hfz30_5
        try clear hfz30_6
        try clear hfz31_0
        try clear hfz31_1
        try clear hfz31_2
        try clear hfz31_3
        try clear hfz31_4
        try clear hfz31_5
        try clear hfz31_6
        try clear hfz33_0
        try clear hfz33_1
        try clear hfz33_2
        try clear hfz33_3
        try clear hfz33_4
        try clear hfz33_5
        try clear hfz33_6
        try clear hfz34_0
        try clear hfz34_1
        try clear hfz34_2
        try clear hfz34_3
        try clear hfz34_4
        try clear hfz34_5
        try clear hfz34_6
        try clear hfz42_0
        try clear hfz42_1
        try clear hfz42_2
        try clear hfz42_3
        try clear hfz42_4
        try clear hfz42_5
        try clear hfz42_6
        try clear hfz43_0
        try clear hfz43_1
        try clear hfz43_2
        try clear hfz43_3
        try clear hfz43_4
        try clear hfz43_5
        try clear hfz43_6
        try clear hfz45_0
        try clear hfz45_1
        try clear hfz45_2
        try clear hfz45_3
        try clear hfz45_4
        try clear hfz45_5
        try clear hfz45_6
        try clear hfz46_0
        try clear hfz46_1
        try clear hfz46_2
        try clear hfz46_3
        try clear hfz46_4
        try clear hfz46_5
        try clear hfz46_6
        try clear hfz48_0
        try clear hfz48_1
        try clear hfz48_2
        try clear hfz48_3
        try clear hfz48_4
        try clear hfz48_5
        try clear hfz48_6
        try clear hx210_0
        try clear hx211_0
        try clear p2
        try clear p210
        try clear p211
        try clear q210
        try clear q211
        obtain ⟨x6_3, rfl, HA, HK3, BK206, BK207, HB⟩ := hrel
        cases gk with
        | zero => exact absurd HA.out (by simp [berthref20_Same.l1])
        | succ k3 =>
         have H := HA.out
         clear HA
         simp only [berthref20_Same.l1] at H
         by_cases c49 : x6_3 < (l0_3.length : Int)
         ·
          rw [if_pos c49] at H
          have c49b0 : decide (x6_3 < (l0_3.length : Int)) = true := decide_eq_true c49
          clear c49
          by_cases c50 : 0 ≤ x6_3
          ·
           rw [if_pos c50] at H
           have c50b0 : decide (0 ≤ x6_3) = true := decide_eq_true c50
           clear c50
           by_cases c51 : x6_3 < (l1_3.length : Int)
           ·
            rw [if_pos c51] at H
            have c51b0 : decide (x6_3 < (l1_3.length : Int)) = true := decide_eq_true c51
            clear c51
            replace H := Option.bind_eq_some_iff.mp H
            obtain ⟨t215, A520, H⟩ := H
            replace H : (if t215 = true then (berthref20_Same.l1 k3 (wrap64 (x6_3 + 1)) l0_0 l0_1 l0_2 l0_3 l0_4 a0_5 a0_6 l1_0 l1_1 l1_2 l1_3 l1_4 a1_5 a1_6) else (some false)) = some r := H
            have A52 := Aside0.mk A520
            clear A520
            by_cases c53 : t215 = true
            ·
             subst c53
             have H1 : (berthref20_Same.l1 k3 (wrap64 (x6_3 + 1)) l0_0 l0_1 l0_2 l0_3 l0_4 a0_5 a0_6 l1_0 l1_1 l1_2 l1_3 l1_4 a1_5 a1_6) = some r := by rw [if_pos rfl] at H; exact H
             clear H
             have H := H1
             clear H1
             have H' := Aside0.mk H
             clear H
             have hnb54 := NB206_207.out
             have hnc54 := NB207_206.out
             have hcz55_0 : wr.cell? ⟨gb206, 0, none⟩ = some (.slice A0_0 l0_0.length c0_0) := (blk_cell BK206.out 0).trans rfl
             have hcz55_1 : wr.cell? ⟨gb206, 1, none⟩ = some (.slice A0_1 l0_1.length c0_1) := (blk_cell BK206.out 1).trans rfl
             have hcz55_2 : wr.cell? ⟨gb206, 2, none⟩ = some (.slice A0_2 l0_2.length c0_2) := (blk_cell BK206.out 2).trans rfl
             have hcz55_3 : wr.cell? ⟨gb206, 3, none⟩ = some (.slice A0_3 l0_3.length c0_3) := (blk_cell BK206.out 3).trans rfl
             have hcz55_4 : wr.cell? ⟨gb206, 4, none⟩ = some (.slice A0_4 l0_4.length c0_4) := (blk_cell BK206.out 4).trans rfl
             have hcz55_5 : wr.cell? ⟨gb206, 5, none⟩ = some (.int .i64 a0_5) := (blk_cell BK206.out 5).trans rfl
             have hcz55_6 : wr.cell? ⟨gb206, 6, none⟩ = some (.int .i64 a0_6) := (blk_cell BK206.out 6).trans rfl
             have hfz55_0 := blk_frozen BK206.out 0
             have hfz55_1 := blk_frozen BK206.out 1
             have hfz55_2 := blk_frozen BK206.out 2
             have hfz55_3 := blk_frozen BK206.out 3
             have hfz55_4 := blk_frozen BK206.out 4
             have hfz55_5 := blk_frozen BK206.out 5
             have hfz55_6 := blk_frozen BK206.out 6
             have p213 : 0 ≤ (x6_3 : Int) := of_decide_eq_true (by first | (with_reducible assumption) | assumption)
             have q213 : x6_3 < (l0_3.length : Int) := of_decide_eq_true (by first | (with_reducible assumption) | assumption)
             obtain ⟨ad213, A213_0, c213_0, e213, hx213_0, hl213_0, hi213_0⟩ := at_L3 HR0_3.out x6_3 p213 q213
             cases e213
             replace hx213_0 := (HB.out.cell (World.block_lt_of_cell? w _ hx213_0)).trans hx213_0
             have HR213_0 := Aside0.mk hi213_0
             have HC213_0 := Aside0.mk hl213_0
             clear hi213_0 hl213_0
             replace p213 := eq_true p213
             replace q213 := eq_true q213
             have hcz56_0 : wr.cell? ⟨gb207, 0, none⟩ = some (.slice A1_0 l1_0.length c1_0) := (blk_cell BK207.out 0).trans rfl
             have hcz56_1 : wr.cell? ⟨gb207, 1, none⟩ = some (.slice A1_1 l1_1.length c1_1) := (blk_cell BK207.out 1).trans rfl
             have hcz56_2 : wr.cell? ⟨gb207, 2, none⟩ = some (.slice A1_2 l1_2.length c1_2) := (blk_cell BK207.out 2).trans rfl
             have hcz56_3 : wr.cell? ⟨gb207, 3, none⟩ = some (.slice A1_3 l1_3.length c1_3) := (blk_cell BK207.out 3).trans rfl
             have hcz56_4 : wr.cell? ⟨gb207, 4, none⟩ = some (.slice A1_4 l1_4.length c1_4) := (blk_cell BK207.out 4).trans rfl
             have hcz56_5 : wr.cell? ⟨gb207, 5, none⟩ = some (.int .i64 a1_5) := (blk_cell BK207.out 5).trans rfl
             have hcz56_6 : wr.cell? ⟨gb207, 6, none⟩ = some (.int .i64 a1_6) := (blk_cell BK207.out 6).trans rfl
             have hfz56_0 := blk_frozen BK207.out 0
             have hfz56_1 := blk_frozen BK207.out 1
             have hfz56_2 := blk_frozen BK207.out 2
             have hfz56_3 := blk_frozen BK207.out 3
             have hfz56_4 := blk_frozen BK207.out 4
             have hfz56_5 := blk_frozen BK207.out 5
             have hfz56_6 := blk_frozen BK207.out 6
             have p214 : 0 ≤ (x6_3 : Int) := of_decide_eq_true (by first | (with_reducible assumption) | assumption)
             have q214 : x6_3 < (l1_3.length : Int) := of_decide_eq_true (by first | (with_reducible assumption) | assumption)
             obtain ⟨ad214, A214_0, c214_0, e214, hx214_0, hl214_0, hi214_0⟩ := at_L3 HR1_3.out x6_3 p214 q214
             cases e214
             replace hx214_0 := (HB.out.cell (World.block_lt_of_cell? w _ hx214_0)).trans hx214_0
             have HR214_0 := Aside0.mk hi214_0
             have HC214_0 := Aside0.mk hl214_0
             clear hi214_0 hl214_0
             replace p214 := eq_true p214
             replace q214 := eq_true q214
             go_wp2_with (first | (go_at_call 51; (with_reducible refine (berthref20_sameNums.calls k3 _ _ (rd_L3 l0_3 x6_3) _ _ (rd_L3 l1_3 x6_3) true _ ?side1 ?side2 ?side3 ?side4 A52.out).mono ?_); (case side1 => repeat (first | exact (Kd.C_below HR213_0.out HB.out) | (with_reducible refine Kd.C_alloc ?_ _) | (with_reducible refine Kd.C_drewN ?_ _) | (with_reducible refine Kd.C_drew ?_))); (case side2 => exact HC213_0.out); (case side3 => repeat (first | exact (Kd.C_below HR214_0.out HB.out) | (with_reducible refine Kd.C_alloc ?_ _) | (with_reducible refine Kd.C_drewN ?_ _) | (with_reducible refine Kd.C_drew ?_))); (case side4 => exact HC214_0.out); rintro e w' ⟨rfl, ⟨nd, rfl⟩⟩; (try first | exact ⟨rfl, _, World.drewN_drewN _ _ _⟩ | exact ⟨rfl, _, Eq.trans (World.drewN_drewN _ _ _) (congrArg (World.drewN _) (Nat.add_assoc _ _ _))⟩)))
             repeat (go_quiet (first | (go_at_call 51; (with_reducible refine (berthref20_sameNums.calls k3 _ _ (rd_L3 l0_3 x6_3) _ _ (rd_L3 l1_3 x6_3) true _ ?side1 ?side2 ?side3 ?side4 A52.out).mono ?_); (case side1 => repeat (first | exact (Kd.C_below HR213_0.out HB.out) | (with_reducible refine Kd.C_alloc ?_ _) | (with_reducible refine Kd.C_drewN ?_ _) | (with_reducible refine Kd.C_drew ?_))); (case side2 => exact HC213_0.out); (case side3 => repeat (first | exact (Kd.C_below HR214_0.out HB.out) | (with_reducible refine Kd.C_alloc ?_ _) | (with_reducible refine Kd.C_drewN ?_ _) | (with_reducible refine Kd.C_drew ?_))); (case side4 => exact HC214_0.out); rintro e w' ⟨rfl, ⟨nd, rfl⟩⟩; (try first | exact ⟨rfl, _, World.drewN_drewN _ _ _⟩ | exact ⟨rfl, _, Eq.trans (World.drewN_drewN _ _ _) (congrArg (World.drewN _) (Nat.add_assoc _ _ _))⟩))); try go_wp2_with (first | (go_at_call 51; (with_reducible refine (berthref20_sameNums.calls k3 _ _ (rd_L3 l0_3 x6_3) _ _ (rd_L3 l1_3 x6_3) true _ ?side1 ?side2 ?side3 ?side4 A52.out).mono ?_); (case side1 => repeat (first | exact (Kd.C_below HR213_0.out HB.out) | (with_reducible refine Kd.C_alloc ?_ _) | (with_reducible refine Kd.C_drewN ?_ _) | (with_reducible refine Kd.C_drew ?_))); (case side2 => exact HC213_0.out); (case side3 => repeat (first | exact (Kd.C_below HR214_0.out HB.out) | (with_reducible refine Kd.C_alloc ?_ _) | (with_reducible refine Kd.C_drewN ?_ _) | (with_reducible refine Kd.C_drew ?_))); (case side4 => exact HC214_0.out); rintro e w' ⟨rfl, ⟨nd, rfl⟩⟩; (try first | exact ⟨rfl, _, World.drewN_drewN _ _ _⟩ | exact ⟨rfl, _, Eq.trans (World.drewN_drewN _ _ _) (congrArg (World.drewN _) (Nat.add_assoc _ _ _))⟩))))
             go_roundg k3
             case measure => have := HJ2.out; have := HK2.out; have := HK3.out; omega
             case rel => exact ⟨(wrap64 (x6_3 + 1)), (by first | rfl | (simp; done) | (simp [*]; done) | (simp only [i64_w]; done) | (simp [i64_w, Int.tdiv_eq_ediv_of_nonneg]; done)), H', ⟨by have := HJ2.out; have := HK2.out; have := HK3.out; omega⟩, ⟨by (with_reducible repeat (first | refine blk_drewN ?_ _ | refine blk_drew ?_ | refine blk_alloc ?_ _)); exact BK206.out⟩, ⟨by (with_reducible repeat (first | refine blk_drewN ?_ _ | refine blk_drew ?_ | refine blk_alloc ?_ _)); exact BK207.out⟩, ⟨by repeat (first | (with_reducible first | exact HB.out | apply below_alloc | apply pw_below_drewN | apply below_drew1 | refine below_set ?_ GE206.out | refine below_set ?_ GE207.out) | exact HB.out)⟩⟩
            ·
             replace c53 := Bool.eq_false_iff.mpr c53
             subst c53
             have H1 : (some false) = some r := by rw [if_neg (show ¬ (false = true) by decide)] at H; exact H
             clear H
             have H := H1
             clear H1
             obtain rfl := Option.some.inj H
             have hnb57 := NB206_207.out
             have hnc57 := NB207_206.out
             have hcz58_0 : wr.cell? ⟨gb206, 0, none⟩ = some (.slice A0_0 l0_0.length c0_0) := (blk_cell BK206.out 0).trans rfl
             have hcz58_1 : wr.cell? ⟨gb206, 1, none⟩ = some (.slice A0_1 l0_1.length c0_1) := (blk_cell BK206.out 1).trans rfl
             have hcz58_2 : wr.cell? ⟨gb206, 2, none⟩ = some (.slice A0_2 l0_2.length c0_2) := (blk_cell BK206.out 2).trans rfl
             have hcz58_3 : wr.cell? ⟨gb206, 3, none⟩ = some (.slice A0_3 l0_3.length c0_3) := (blk_cell BK206.out 3).trans rfl
             have hcz58_4 : wr.cell? ⟨gb206, 4, none⟩ = some (.slice A0_4 l0_4.length c0_4) := (blk_cell BK206.out 4).trans rfl
             have hcz58_5 : wr.cell? ⟨gb206, 5, none⟩ = some (.int .i64 a0_5) := (blk_cell BK206.out 5).trans rfl
             have hcz58_6 : wr.cell? ⟨gb206, 6, none⟩ = some (.int .i64 a0_6) := (blk_cell BK206.out 6).trans rfl
             have hfz58_0 := blk_frozen BK206.out 0
             have hfz58_1 := blk_frozen BK206.out 1
             have hfz58_2 := blk_frozen BK206.out 2
             have hfz58_3 := blk_frozen BK206.out 3
             have hfz58_4 := blk_frozen BK206.out 4
             have hfz58_5 := blk_frozen BK206.out 5
             have hfz58_6 := blk_frozen BK206.out 6
             have p213 : 0 ≤ (x6_3 : Int) := of_decide_eq_true (by first | (with_reducible assumption) | assumption)
             have q213 : x6_3 < (l0_3.length : Int) := of_decide_eq_true (by first | (with_reducible assumption) | assumption)
             obtain ⟨ad213, A213_0, c213_0, e213, hx213_0, hl213_0, hi213_0⟩ := at_L3 HR0_3.out x6_3 p213 q213
             cases e213
             replace hx213_0 := (HB.out.cell (World.block_lt_of_cell? w _ hx213_0)).trans hx213_0
             have HR213_0 := Aside0.mk hi213_0
             have HC213_0 := Aside0.mk hl213_0
             clear hi213_0 hl213_0
             replace p213 := eq_true p213
             replace q213 := eq_true q213
             have hcz59_0 : wr.cell? ⟨gb207, 0, none⟩ = some (.slice A1_0 l1_0.length c1_0) := (blk_cell BK207.out 0).trans rfl
             have hcz59_1 : wr.cell? ⟨gb207, 1, none⟩ = some (.slice A1_1 l1_1.length c1_1) := (blk_cell BK207.out 1).trans rfl
             have hcz59_2 : wr.cell? ⟨gb207, 2, none⟩ = some (.slice A1_2 l1_2.length c1_2) := (blk_cell BK207.out 2).trans rfl
             have hcz59_3 : wr.cell? ⟨gb207, 3, none⟩ = some (.slice A1_3 l1_3.length c1_3) := (blk_cell BK207.out 3).trans rfl
             have hcz59_4 : wr.cell? ⟨gb207, 4, none⟩ = some (.slice A1_4 l1_4.length c1_4) := (blk_cell BK207.out 4).trans rfl
             have hcz59_5 : wr.cell? ⟨gb207, 5, none⟩ = some (.int .i64 a1_5) := (blk_cell BK207.out 5).trans rfl
             have hcz59_6 : wr.cell? ⟨gb207, 6, none⟩ = some (.int .i64 a1_6) := (blk_cell BK207.out 6).trans rfl
             have hfz59_0 := blk_frozen BK207.out 0
             have hfz59_1 := blk_frozen BK207.out 1
             have hfz59_2 := blk_frozen BK207.out 2
             have hfz59_3 := blk_frozen BK207.out 3
             have hfz59_4 := blk_frozen BK207.out 4
             have hfz59_5 := blk_frozen BK207.out 5
             have hfz59_6 := blk_frozen BK207.out 6
             have p214 : 0 ≤ (x6_3 : Int) := of_decide_eq_true (by first | (with_reducible assumption) | assumption)
             have q214 : x6_3 < (l1_3.length : Int) := of_decide_eq_true (by first | (with_reducible assumption) | assumption)
             obtain ⟨ad214, A214_0, c214_0, e214, hx214_0, hl214_0, hi214_0⟩ := at_L3 HR1_3.out x6_3 p214 q214
             cases e214
             replace hx214_0 := (HB.out.cell (World.block_lt_of_cell? w _ hx214_0)).trans hx214_0
             have HR214_0 := Aside0.mk hi214_0
             have HC214_0 := Aside0.mk hl214_0
             clear hi214_0 hl214_0
             replace p214 := eq_true p214
             replace q214 := eq_true q214
             go_wp2_with (first | (go_at_call 51; (with_reducible refine (berthref20_sameNums.calls k3 _ _ (rd_L3 l0_3 x6_3) _ _ (rd_L3 l1_3 x6_3) false _ ?side1 ?side2 ?side3 ?side4 A52.out).mono ?_); (case side1 => repeat (first | exact (Kd.C_below HR213_0.out HB.out) | (with_reducible refine Kd.C_alloc ?_ _) | (with_reducible refine Kd.C_drewN ?_ _) | (with_reducible refine Kd.C_drew ?_))); (case side2 => exact HC213_0.out); (case side3 => repeat (first | exact (Kd.C_below HR214_0.out HB.out) | (with_reducible refine Kd.C_alloc ?_ _) | (with_reducible refine Kd.C_drewN ?_ _) | (with_reducible refine Kd.C_drew ?_))); (case side4 => exact HC214_0.out); rintro e w' ⟨rfl, ⟨nd, rfl⟩⟩; (try first | exact ⟨rfl, _, World.drewN_drewN _ _ _⟩ | exact ⟨rfl, _, Eq.trans (World.drewN_drewN _ _ _) (congrArg (World.drewN _) (Nat.add_assoc _ _ _))⟩)))
             repeat (go_quiet (first | (go_at_call 51; (with_reducible refine (berthref20_sameNums.calls k3 _ _ (rd_L3 l0_3 x6_3) _ _ (rd_L3 l1_3 x6_3) false _ ?side1 ?side2 ?side3 ?side4 A52.out).mono ?_); (case side1 => repeat (first | exact (Kd.C_below HR213_0.out HB.out) | (with_reducible refine Kd.C_alloc ?_ _) | (with_reducible refine Kd.C_drewN ?_ _) | (with_reducible refine Kd.C_drew ?_))); (case side2 => exact HC213_0.out); (case side3 => repeat (first | exact (Kd.C_below HR214_0.out HB.out) | (with_reducible refine Kd.C_alloc ?_ _) | (with_reducible refine Kd.C_drewN ?_ _) | (with_reducible refine Kd.C_drew ?_))); (case side4 => exact HC214_0.out); rintro e w' ⟨rfl, ⟨nd, rfl⟩⟩; (try first | exact ⟨rfl, _, World.drewN_drewN _ _ _⟩ | exact ⟨rfl, _, Eq.trans (World.drewN_drewN _ _ _) (congrArg (World.drewN _) (Nat.add_assoc _ _ _))⟩))); try go_wp2_with (first | (go_at_call 51; (with_reducible refine (berthref20_sameNums.calls k3 _ _ (rd_L3 l0_3 x6_3) _ _ (rd_L3 l1_3 x6_3) false _ ?side1 ?side2 ?side3 ?side4 A52.out).mono ?_); (case side1 => repeat (first | exact (Kd.C_below HR213_0.out HB.out) | (with_reducible refine Kd.C_alloc ?_ _) | (with_reducible refine Kd.C_drewN ?_ _) | (with_reducible refine Kd.C_drew ?_))); (case side2 => exact HC213_0.out); (case side3 => repeat (first | exact (Kd.C_below HR214_0.out HB.out) | (with_reducible refine Kd.C_alloc ?_ _) | (with_reducible refine Kd.C_drewN ?_ _) | (with_reducible refine Kd.C_drew ?_))); (case side4 => exact HC214_0.out); rintro e w' ⟨rfl, ⟨nd, rfl⟩⟩; (try first | exact ⟨rfl, _, World.drewN_drewN _ _ _⟩ | exact ⟨rfl, _, Eq.trans (World.drewN_drewN _ _ _) (congrArg (World.drewN _) (Nat.add_assoc _ _ _))⟩))))
             go_ret
             exact ⟨by first | rfl | (simp [errW_none, errW_some] <;> rfl) | (simp [*, errW_none, errW_some] <;> rfl), by repeat (first | (with_reducible first | exact HB.out | apply below_alloc | apply pw_below_drewN | apply below_drew1 | refine below_set ?_ GE206.out | refine below_set ?_ GE207.out) | exact HB.out)⟩
           ·
            rw [if_neg c51] at H
            exact absurd H (by simp)
          ·
           rw [if_neg c50] at H
           exact absurd H (by simp)
         ·
          rw [if_neg c49] at H
          have c49b0 : decide (x6_3 < (l0_3.length : Int)) = false := decide_eq_false c49
          clear c49
          have H' := Aside0.mk H
          clear H
          have hnb60 := NB206_207.out
          have hnc60 := NB207_206.out
          have hcz61_0 : wr.cell? ⟨gb206, 0, none⟩ = some (.slice A0_0 l0_0.length c0_0) := (blk_cell BK206.out 0).trans rfl
          have hcz61_1 : wr.cell? ⟨gb206, 1, none⟩ = some (.slice A0_1 l0_1.length c0_1) := (blk_cell BK206.out 1).trans rfl
          have hcz61_2 : wr.cell? ⟨gb206, 2, none⟩ = some (.slice A0_2 l0_2.length c0_2) := (blk_cell BK206.out 2).trans rfl
          have hcz61_3 : wr.cell? ⟨gb206, 3, none⟩ = some (.slice A0_3 l0_3.length c0_3) := (blk_cell BK206.out 3).trans rfl
          have hcz61_4 : wr.cell? ⟨gb206, 4, none⟩ = some (.slice A0_4 l0_4.length c0_4) := (blk_cell BK206.out 4).trans rfl
          have hcz61_5 : wr.cell? ⟨gb206, 5, none⟩ = some (.int .i64 a0_5) := (blk_cell BK206.out 5).trans rfl
          have hcz61_6 : wr.cell? ⟨gb206, 6, none⟩ = some (.int .i64 a0_6) := (blk_cell BK206.out 6).trans rfl
          have hfz61_0 := blk_frozen BK206.out 0
          have hfz61_1 := blk_frozen BK206.out 1
          have hfz61_2 := blk_frozen BK206.out 2
          have hfz61_3 := blk_frozen BK206.out 3
          have hfz61_4 := blk_frozen BK206.out 4
          have hfz61_5 := blk_frozen BK206.out 5
          have hfz61_6 := blk_frozen BK206.out 6
          go_wp2
          repeat (go_quiet (fail); try go_wp2)
          go_loopg [7] k3 (fun kq v7 w' => ∃ (x7_4 : Int), v7 = .int .i64 x7_4 ∧ Aside0 (berthref20_Same.l2 kq x7_4 l0_0 l0_1 l0_2 l0_3 l0_4 a0_5 a0_6 l1_0 l1_1 l1_2 l1_3 l1_4 a1_5 a1_6 = some r) ∧ Aside0 (kq ≤ k3) ∧ Aside0 (w'.heap[gb206]? = some (.cells #[(.slice A0_0 l0_0.length c0_0), (.slice A0_1 l0_1.length c0_1), (.slice A0_2 l0_2.length c0_2), (.slice A0_3 l0_3.length c0_3), (.slice A0_4 l0_4.length c0_4), .int .i64 a0_5, .int .i64 a0_6] 32 (0, 0))) ∧ Aside0 (w'.heap[gb207]? = some (.cells #[(.slice A1_0 l1_0.length c1_0), (.slice A1_1 l1_1.length c1_1), (.slice A1_2 l1_2.length c1_2), (.slice A1_3 l1_3.length c1_3), (.slice A1_4 l1_4.length c1_4), .int .i64 a1_5, .int .i64 a1_6] 32 (0, 0))) ∧ Aside0 (Below w.heap.size w w'))
          case atStart => exact ⟨(0), (by first | rfl | (simp; done) | (simp [*]; done) | (simp only [i64_w]; done) | (simp [i64_w, Int.tdiv_eq_ediv_of_nonneg]; done)), H', ⟨Nat.le_refl _⟩, ⟨by (with_reducible repeat (first | refine blk_drewN ?_ _ | refine blk_drew ?_ | refine blk_alloc ?_ _)); exact BK206.out⟩, ⟨by (with_reducible repeat (first | refine blk_drewN ?_ _ | refine blk_drew ?_ | refine blk_alloc ?_ _)); exact BK207.out⟩, ⟨by repeat (first | (with_reducible first | exact HB.out | apply below_alloc | apply pw_below_drewN | apply below_drew1 | refine below_set ?_ GE206.out | refine below_set ?_ GE207.out) | exact HB.out)⟩⟩
          case round =>
           clear H'
           try clear c1
           try clear c2
           try clear p2
           try clear q2
           try clear hx2
           try clear c3
           try clear c4
           try clear c5
           try clear c6
           try clear c6b0
           try clear c6b1
           try clear p6
           try clear c7
           try clear c7b0
           try clear c7b1
           try clear c9
           try clear c11
           try clear c12
           try clear c12b0
           try clear c12b1
           try clear c12b2
           try clear c13
           try clear c13b0
           try clear c13b1
           try clear c13b2
           try clear c14
           try clear c17
           try clear c18
           try clear c20
           try clear c21
           try clear p21
           try clear q21
           try clear hx21
           try clear c23
           try clear c26
           try clear c29
           try clear c32
           try clear c35
           try clear c36
           try clear c36b0
           try clear c37
           try clear c37b0
           try clear c38
           try clear c38b0
           try clear c40
           try clear c41
           try clear c44
           try clear c47
           try clear c49
           try clear c49b0
           try clear c50
           try clear c50b0
           try clear c51
           try clear c51b0
           try clear c53
           try clear c54
           try clear c57
           try clear c60
           try clear hcz15_0
           try clear hcz15_1
           try clear hcz15_2
           try clear hcz15_3
           try clear hcz15_4
           try clear hcz15_5
           try clear hcz15_6
           try clear hcz16_0
           try clear hcz16_1
           try clear hcz16_2
           try clear hcz16_3
           try clear hcz16_4
           try clear hcz16_5
           try clear hcz16_6
           try clear hcz18_0
           try clear hcz18_1
           try clear hcz18_2
           try clear hcz18_3
           try clear hcz18_4
           try clear hcz18_5
           try clear hcz18_6
           try clear hcz19_0
           try clear hcz19_1
           try clear hcz19_2
           try clear hcz19_3
           try clear hcz19_4
           try clear hcz19_5
           try clear hcz19_6
           try clear hcz21_0
           try clear hcz21_1
           try clear hcz21_2
           try clear hcz21_3
           try clear hcz21_4
           try clear hcz21_5
           try clear hcz21_6
           try clear hcz22_0
           try clear hcz22_1
           try clear hcz22_2
           try clear hcz22_3
           try clear hcz22_4
           try clear hcz22_5
           try clear hcz22_6
           try clear hcz24_0
           try clear hcz24_1
           try clear hcz24_2
           try clear hcz24_3
           try clear hcz24_4
           try clear hcz24_5
           try clear hcz24_6
           try clear hcz25_0
           try clear hcz25_1
           try clear hcz25_2
           try clear hcz25_3
           try clear hcz25_4
           try clear hcz25_5
           try clear hcz25_6
           try clear hcz27_0
           try clear hcz27_1
           try clear hcz27_2
           try clear hcz27_3
           try clear hcz27_4
           try clear hcz27_5
           try clear hcz27_6
           try clear hcz28_0
           try clear hcz28_1
           try clear hcz28_2
           try clear hcz28_3
           try clear hcz28_4
           try clear hcz28_5
           try clear hcz28_6
           try clear hcz30_0
           try clear hcz30_1
           try clear hcz30_2
           try clear hcz30_3
           try clear hcz30_4
           try clear hcz30_5
           try clear hcz30_6
           try clear hcz31_0
           try clear hcz31_1
           try clear hcz31_2
           try clear hcz31_3
           try clear hcz31_4
           try clear hcz31_5
           try clear hcz31_6
           try clear hcz33_0
           try clear hcz33_1
           try clear hcz33_2
           try clear hcz33_3
           try clear hcz33_4
           try clear hcz33_5
           try clear hcz33_6
           try clear hcz34_0
           try clear hcz34_1
           try clear hcz34_2
           try clear hcz34_3
           try clear hcz34_4
           try clear hcz34_5
           try clear hcz34_6
           try clear hcz42_0
           try clear hcz42_1
           try clear hcz42_2
           try clear hcz42_3
           try clear hcz42_4
           try clear hcz42_5
           try clear hcz42_6
           try clear hcz43_0
           try clear hcz43_1
           try clear hcz43_2
           try clear hcz43_3
           try clear hcz43_4
           try clear hcz43_5
           try clear hcz43_6
           try clear hcz45_0
           try clear hcz45_1
           try clear hcz45_2
           try clear hcz45_3
           try clear hcz45_4
           try clear hcz45_5
           try clear hcz45_6
           try clear hcz46_0
           try clear hcz46_1
           try clear hcz46_2
           try clear hcz46_3
           try clear hcz46_4
           try clear hcz46_5
           try clear hcz46_6
           try clear hcz48_0
           try clear hcz48_1
           try clear hcz48_2
           try clear hcz48_3
           try clear hcz48_4
           try clear hcz48_5
           try clear hcz48_6
           try clear hcz55_0
           try clear hcz55_1
           try clear hcz55_2
           try clear hcz55_3
           try clear hcz55_4
           try clear hcz55_5
           try clear hcz55_6
           try clear hcz56_0
           try clear hcz56_1
           try clear hcz56_2
           try clear hcz56_3
           try clear hcz56_4
           try clear hcz56_5
           try clear hcz56_6
           try clear hcz58_0
           try clear hcz58_1
           try clear hcz58_2
           try clear hcz58_3
           try clear hcz58_4
           try clear hcz58_5
           try clear hcz58_6
           try clear hcz59_0
           try clear hcz59_1
           try clear hcz59_2
           try clear hcz59_3
           try clear hcz59_4
           try clear hcz59_5
           try clear hcz59_6
           try clear hcz61_0
           try clear hcz61_1
           try clear hcz61_2
           try clear hcz61_3
           try clear hcz61_4
           try clear hcz61_5
           try clear hcz61_6
           try clear hfz15_0
           try clear hfz15_1
           try clear hfz15_2
           try clear hfz15_3
           try clear hfz15_4
           try clear hfz15_5
           try clear hfz15_6
           try clear hfz16_0
           try clear hfz16_1
           try clear hfz16_2
           try clear hfz16_3
           try clear hfz16_4
           try clear hfz16_5
           try clear hfz16_6
           try clear hfz18_0
           try clear hfz18_1
           try clear hfz18_2
           try clear hfz18_3
           try clear hfz18_4
           try clear hfz18_5
           try clear hfz18_6
           try clear hfz19_0
           try clear hfz19_1
           try clear hfz19_2
           try clear hfz19_3
           try clear hfz19_4
           try clear hfz19_5
           try clear hfz19_6
           try clear hfz21_0
           try clear hfz21_1
           try clear hfz21_2
           try clear hfz21_3
           try clear hfz21_4
           try clear hfz21_5
           try clear hfz21_6
           try clear hfz22_0
           try clear hfz22_1
           try clear hfz22_2
           try clear hfz22_3
           try clear hfz22_4
           try clear hfz22_5
           try clear hfz22_6
           try clear hfz24_0
           try clear hfz24_1
           try clear hfz24_2
           try clear hfz24_3
           try clear hfz24_4
           try clear hfz24_5
           try clear hfz24_6
           try clear hfz25_0
           try clear hfz25_1
           try clear hfz25_2
           try clear hfz25_3
           try clear hfz25_4
           try clear hfz25_5
           try clear hfz25_6
           try clear hfz27_0
           try clear hfz27_1
           try clear hfz27_2
           try clear hfz27_3
           try clear hfz27_4
           try clear hfz27_5
           try clear hfz27_6
           try clear hfz28_0
           try clear hfz28_1
           try clear hfz28_2
           try clear hfz28_3
           try clear hfz28_4
           try clear hfz28_5
           try clear hfz28_6
           try clear hfz30_0
           try clear hfz30_1
           try clear hfz30_2
           try clear hfz30_3
           try clear hfz30_4
           try clear hfz30_5
           try clear hfz30_6
           try clear hfz31_0
           try clear hfz31_1
           try clear hfz31_2
           try clear hfz31_3
           try clear hfz31_4
           try clear hfz31_5
           try clear hfz31_6
           try clear hfz33_0
           try clear hfz33_1
           try clear hfz33_2
           try clear hfz33_3
           try clear hfz33_4
           try clear hfz33_5
           try clear hfz33_6
           try clear hfz34_0
           try clear hfz34_1
           try clear hfz34_2
           try clear hfz34_3
           try clear hfz34_4
           try clear hfz34_5
           try clear hfz34_6
           try clear hfz42_0
           try clear hfz42_1
           try clear hfz42_2
           try clear hfz42_3
           try clear hfz42_4
           try clear hfz42_5
           try clear hfz42_6
           try clear hfz43_0
           try clear hfz43_1
           try clear hfz43_2
           try clear hfz43_3
           try clear hfz43_4
           try clear hfz43_5
           try clear hfz43_6
           try clear hfz45_0
           try clear hfz45_1
           try clear hfz45_2
           try clear hfz45_3
           try clear hfz45_4
           try clear hfz45_5
           try clear hfz45_6
           try clear hfz46_0
           try clear hfz46_1
           try clear hfz46_2
           try clear hfz46_3
           try clear hfz46_4
           try clear hfz46_5
           try clear hfz46_6
           try clear hfz48_0
           try clear hfz48_1
           try clear hfz48_2
           try clear hfz48_3
           try clear hfz48_4
           try clear hfz48_5
           try clear hfz48_6
           try clear hfz55_0
           try clear hfz55_1
           try clear hfz55_2
           try clear hfz55_3
           try clear hfz55_4
           try clear hfz55_5
           try clear hfz55_6
           try clear hfz56_0
           try clear hfz56_1
           try clear hfz56_2
           try clear hfz56_3
           try clear hfz56_4
           try clear hfz56_5
           try clear hfz56_6
           try clear hfz58_0
           try clear hfz58_1
           try clear hfz58_2
           try clear hfz58_3
           try clear hfz58_4
           try clear hfz58_5
           try clear hfz58_6
           try clear hfz59_0
           try clear hfz59_1
           try clear hfz59_2
           try clear hfz59_3
           try clear hfz59_4
           try clear hfz59_5
           try clear hfz59_6
           try clear hfz61_0
           try clear hfz61_1
           try clear hfz61_2
           try clear hfz61_3
           try clear hfz61_4
           try clear hfz61_5
           try clear hfz61_6
           try clear hx210_0
           try clear hx211_0
           try clear hx213_0
           try clear hx214_0
           try clear p2
           try clear p21
           try clear p210
           try clear p211
           try clear p213
           try clear p214
           try clear p6
           try clear q2
           try clear q21
           try clear q210
           try clear q211
           try clear q213
           try clear q214
           obtain ⟨x7_4, rfl, HA, HK4, BK206, BK207, HB⟩ := hrel
           cases gk with
           | zero => exact absurd HA.out (by simp [berthref20_Same.l2])
           | succ k4 =>
            have H := HA.out
            clear HA
            simp only [berthref20_Same.l2] at H
            by_cases c62 : x7_4 < (l0_4.length : Int)
            ·
             rw [if_pos c62] at H
             have c62b0 : decide (x7_4 < (l0_4.length : Int)) = true := decide_eq_true c62
             clear c62
             by_cases c63 : 0 ≤ x7_4
             ·
              rw [if_pos c63] at H
              have c63b0 : decide (0 ≤ x7_4) = true := decide_eq_true c63
              clear c63
              by_cases c64 : x7_4 < (l1_4.length : Int)
              ·
               rw [if_pos c64] at H
               have c64b0 : decide (x7_4 < (l1_4.length : Int)) = true := decide_eq_true c64
               clear c64
               by_cases c65 : (!(((rd_T74 l0_4 x7_4).f0) == ((rd_T74 l1_4 x7_4).f0)) || (!(((rd_T74 l0_4 x7_4).f1) == ((rd_T74 l1_4 x7_4).f1)) || (!(((rd_T74 l0_4 x7_4).f2) == ((rd_T74 l1_4 x7_4).f2)) || (!(((rd_T74 l0_4 x7_4).f3) == ((rd_T74 l1_4 x7_4).f3)))))) = true
               ·
                rw [if_pos c65] at H
                have c65b0 : (!(((rd_T74 l0_4 x7_4).f0) == ((rd_T74 l1_4 x7_4).f0)) || (!(((rd_T74 l0_4 x7_4).f1) == ((rd_T74 l1_4 x7_4).f1)) || (!(((rd_T74 l0_4 x7_4).f2) == ((rd_T74 l1_4 x7_4).f2)) || (!(((rd_T74 l0_4 x7_4).f3) == ((rd_T74 l1_4 x7_4).f3)))))) = true := c65
                clear c65
                obtain rfl := Option.some.inj H
                have hnb66 := NB206_207.out
                have hnc66 := NB207_206.out
                have hcz67_0 : wr.cell? ⟨gb206, 0, none⟩ = some (.slice A0_0 l0_0.length c0_0) := (blk_cell BK206.out 0).trans rfl
                have hcz67_1 : wr.cell? ⟨gb206, 1, none⟩ = some (.slice A0_1 l0_1.length c0_1) := (blk_cell BK206.out 1).trans rfl
                have hcz67_2 : wr.cell? ⟨gb206, 2, none⟩ = some (.slice A0_2 l0_2.length c0_2) := (blk_cell BK206.out 2).trans rfl
                have hcz67_3 : wr.cell? ⟨gb206, 3, none⟩ = some (.slice A0_3 l0_3.length c0_3) := (blk_cell BK206.out 3).trans rfl
                have hcz67_4 : wr.cell? ⟨gb206, 4, none⟩ = some (.slice A0_4 l0_4.length c0_4) := (blk_cell BK206.out 4).trans rfl
                have hcz67_5 : wr.cell? ⟨gb206, 5, none⟩ = some (.int .i64 a0_5) := (blk_cell BK206.out 5).trans rfl
                have hcz67_6 : wr.cell? ⟨gb206, 6, none⟩ = some (.int .i64 a0_6) := (blk_cell BK206.out 6).trans rfl
                have hfz67_0 := blk_frozen BK206.out 0
                have hfz67_1 := blk_frozen BK206.out 1
                have hfz67_2 := blk_frozen BK206.out 2
                have hfz67_3 := blk_frozen BK206.out 3
                have hfz67_4 := blk_frozen BK206.out 4
                have hfz67_5 := blk_frozen BK206.out 5
                have hfz67_6 := blk_frozen BK206.out 6
                have p216 : 0 ≤ (x7_4 : Int) := of_decide_eq_true (by first | (with_reducible assumption) | assumption)
                have q216 : x7_4 < (l0_4.length : Int) := of_decide_eq_true (by first | (with_reducible assumption) | assumption)
                obtain ⟨ad216, e216, hx216_0, hx216_1, hx216_2, hx216_3⟩ := at_T74 HR0_4.out x7_4 p216 q216
                cases e216
                replace hx216_0 := (HB.out.cell (World.block_lt_of_cell? w _ hx216_0)).trans hx216_0
                replace hx216_1 := (HB.out.cell (World.block_lt_of_cell? w _ hx216_1)).trans hx216_1
                replace hx216_2 := (HB.out.cell (World.block_lt_of_cell? w _ hx216_2)).trans hx216_2
                replace hx216_3 := (HB.out.cell (World.block_lt_of_cell? w _ hx216_3)).trans hx216_3
                replace p216 := eq_true p216
                replace q216 := eq_true q216
                have hcz68_0 : wr.cell? ⟨gb207, 0, none⟩ = some (.slice A1_0 l1_0.length c1_0) := (blk_cell BK207.out 0).trans rfl
                have hcz68_1 : wr.cell? ⟨gb207, 1, none⟩ = some (.slice A1_1 l1_1.length c1_1) := (blk_cell BK207.out 1).trans rfl
                have hcz68_2 : wr.cell? ⟨gb207, 2, none⟩ = some (.slice A1_2 l1_2.length c1_2) := (blk_cell BK207.out 2).trans rfl
                have hcz68_3 : wr.cell? ⟨gb207, 3, none⟩ = some (.slice A1_3 l1_3.length c1_3) := (blk_cell BK207.out 3).trans rfl
                have hcz68_4 : wr.cell? ⟨gb207, 4, none⟩ = some (.slice A1_4 l1_4.length c1_4) := (blk_cell BK207.out 4).trans rfl
                have hcz68_5 : wr.cell? ⟨gb207, 5, none⟩ = some (.int .i64 a1_5) := (blk_cell BK207.out 5).trans rfl
                have hcz68_6 : wr.cell? ⟨gb207, 6, none⟩ = some (.int .i64 a1_6) := (blk_cell BK207.out 6).trans rfl
                have hfz68_0 := blk_frozen BK207.out 0
                have hfz68_1 := blk_frozen BK207.out 1
                have hfz68_2 := blk_frozen BK207.out 2
                have hfz68_3 := blk_frozen BK207.out 3
                have hfz68_4 := blk_frozen BK207.out 4
                have hfz68_5 := blk_frozen BK207.out 5
                have hfz68_6 := blk_frozen BK207.out 6
                have p217 : 0 ≤ (x7_4 : Int) := of_decide_eq_true (by first | (with_reducible assumption) | assumption)
                have q217 : x7_4 < (l1_4.length : Int) := of_decide_eq_true (by first | (with_reducible assumption) | assumption)
                obtain ⟨ad217, e217, hx217_0, hx217_1, hx217_2, hx217_3⟩ := at_T74 HR1_4.out x7_4 p217 q217
                cases e217
                replace hx217_0 := (HB.out.cell (World.block_lt_of_cell? w _ hx217_0)).trans hx217_0
                replace hx217_1 := (HB.out.cell (World.block_lt_of_cell? w _ hx217_1)).trans hx217_1
                replace hx217_2 := (HB.out.cell (World.block_lt_of_cell? w _ hx217_2)).trans hx217_2
                replace hx217_3 := (HB.out.cell (World.block_lt_of_cell? w _ hx217_3)).trans hx217_3
                replace p217 := eq_true p217
                replace q217 := eq_true q217
                go_wp2
                repeat (go_quiet (fail); try go_wp2)
                go_ret
                exact ⟨by first | rfl | (simp [errW_none, errW_some] <;> rfl) | (simp [*, errW_none, errW_some] <;> rfl), by repeat (first | (with_reducible first | exact HB.out | apply below_alloc | apply pw_below_drewN | apply below_drew1 | refine below_set ?_ GE206.out | refine below_set ?_ GE207.out) | exact HB.out)⟩
               ·
                rw [if_neg c65] at H
                have c65b0 : (!(((rd_T74 l0_4 x7_4).f0) == ((rd_T74 l1_4 x7_4).f0)) || (!(((rd_T74 l0_4 x7_4).f1) == ((rd_T74 l1_4 x7_4).f1)) || (!(((rd_T74 l0_4 x7_4).f2) == ((rd_T74 l1_4 x7_4).f2)) || (!(((rd_T74 l0_4 x7_4).f3) == ((rd_T74 l1_4 x7_4).f3)))))) = false := by simpa using c65
                clear c65
                have H' := Aside0.mk H
                clear H
                have hnb69 := NB206_207.out
                have hnc69 := NB207_206.out
                have hcz70_0 : wr.cell? ⟨gb206, 0, none⟩ = some (.slice A0_0 l0_0.length c0_0) := (blk_cell BK206.out 0).trans rfl
                have hcz70_1 : wr.cell? ⟨gb206, 1, none⟩ = some (.slice A0_1 l0_1.length c0_1) := (blk_cell BK206.out 1).trans rfl
                have hcz70_2 : wr.cell? ⟨gb206, 2, none⟩ = some (.slice A0_2 l0_2.length c0_2) := (blk_cell BK206.out 2).trans rfl
                have hcz70_3 : wr.cell? ⟨gb206, 3, none⟩ = some (.slice A0_3 l0_3.length c0_3) := (blk_cell BK206.out 3).trans rfl
                have hcz70_4 : wr.cell? ⟨gb206, 4, none⟩ = some (.slice A0_4 l0_4.length c0_4) := (blk_cell BK206.out 4).trans rfl
                have hcz70_5 : wr.cell? ⟨gb206, 5, none⟩ = some (.int .i64 a0_5) := (blk_cell BK206.out 5).trans rfl
                have hcz70_6 : wr.cell? ⟨gb206, 6, none⟩ = some (.int .i64 a0_6) := (blk_cell BK206.out 6).trans rfl
                have hfz70_0 := blk_frozen BK206.out 0
                have hfz70_1 := blk_frozen BK206.out 1
                have hfz70_2 := blk_frozen BK206.out 2
                have hfz70_3 := blk_frozen BK206.out 3
                have hfz70_4 := blk_frozen BK206.out 4
                have hfz70_5 := blk_frozen BK206.out 5
                have hfz70_6 := blk_frozen BK206.out 6
                have p216 : 0 ≤ (x7_4 : Int) := of_decide_eq_true (by first | (with_reducible assumption) | assumption)
                have q216 : x7_4 < (l0_4.length : Int) := of_decide_eq_true (by first | (with_reducible assumption) | assumption)
                obtain ⟨ad216, e216, hx216_0, hx216_1, hx216_2, hx216_3⟩ := at_T74 HR0_4.out x7_4 p216 q216
                cases e216
                replace hx216_0 := (HB.out.cell (World.block_lt_of_cell? w _ hx216_0)).trans hx216_0
                replace hx216_1 := (HB.out.cell (World.block_lt_of_cell? w _ hx216_1)).trans hx216_1
                replace hx216_2 := (HB.out.cell (World.block_lt_of_cell? w _ hx216_2)).trans hx216_2
                replace hx216_3 := (HB.out.cell (World.block_lt_of_cell? w _ hx216_3)).trans hx216_3
                replace p216 := eq_true p216
                replace q216 := eq_true q216
                have hcz71_0 : wr.cell? ⟨gb207, 0, none⟩ = some (.slice A1_0 l1_0.length c1_0) := (blk_cell BK207.out 0).trans rfl
                have hcz71_1 : wr.cell? ⟨gb207, 1, none⟩ = some (.slice A1_1 l1_1.length c1_1) := (blk_cell BK207.out 1).trans rfl
                have hcz71_2 : wr.cell? ⟨gb207, 2, none⟩ = some (.slice A1_2 l1_2.length c1_2) := (blk_cell BK207.out 2).trans rfl
                have hcz71_3 : wr.cell? ⟨gb207, 3, none⟩ = some (.slice A1_3 l1_3.length c1_3) := (blk_cell BK207.out 3).trans rfl
                have hcz71_4 : wr.cell? ⟨gb207, 4, none⟩ = some (.slice A1_4 l1_4.length c1_4) := (blk_cell BK207.out 4).trans rfl
                have hcz71_5 : wr.cell? ⟨gb207, 5, none⟩ = some (.int .i64 a1_5) := (blk_cell BK207.out 5).trans rfl
                have hcz71_6 : wr.cell? ⟨gb207, 6, none⟩ = some (.int .i64 a1_6) := (blk_cell BK207.out 6).trans rfl
                have hfz71_0 := blk_frozen BK207.out 0
                have hfz71_1 := blk_frozen BK207.out 1
                have hfz71_2 := blk_frozen BK207.out 2
                have hfz71_3 := blk_frozen BK207.out 3
                have hfz71_4 := blk_frozen BK207.out 4
                have hfz71_5 := blk_frozen BK207.out 5
                have hfz71_6 := blk_frozen BK207.out 6
                have p217 : 0 ≤ (x7_4 : Int) := of_decide_eq_true (by first | (with_reducible assumption) | assumption)
                have q217 : x7_4 < (l1_4.length : Int) := of_decide_eq_true (by first | (with_reducible assumption) | assumption)
                obtain ⟨ad217, e217, hx217_0, hx217_1, hx217_2, hx217_3⟩ := at_T74 HR1_4.out x7_4 p217 q217
                cases e217
                replace hx217_0 := (HB.out.cell (World.block_lt_of_cell? w _ hx217_0)).trans hx217_0
                replace hx217_1 := (HB.out.cell (World.block_lt_of_cell? w _ hx217_1)).trans hx217_1
                replace hx217_2 := (HB.out.cell (World.block_lt_of_cell? w _ hx217_2)).trans hx217_2
                replace hx217_3 := (HB.out.cell (World.block_lt_of_cell? w _ hx217_3)).trans hx217_3
                replace p217 := eq_true p217
                replace q217 := eq_true q217
                go_wp2
                repeat (go_quiet (fail); try go_wp2)
                go_roundg k4
                case measure => have := HJ2.out; have := HK2.out; have := HK3.out; have := HK4.out; omega
                case rel => exact ⟨(wrap64 (x7_4 + 1)), (by first | rfl | (simp; done) | (simp [*]; done) | (simp only [i64_w]; done) | (simp [i64_w, Int.tdiv_eq_ediv_of_nonneg]; done)), H', ⟨by have := HJ2.out; have := HK2.out; have := HK3.out; have := HK4.out; omega⟩, ⟨by (with_reducible repeat (first | refine blk_drewN ?_ _ | refine blk_drew ?_ | refine blk_alloc ?_ _)); exact BK206.out⟩, ⟨by (with_reducible repeat (first | refine blk_drewN ?_ _ | refine blk_drew ?_ | refine blk_alloc ?_ _)); exact BK207.out⟩, ⟨by repeat (first | (with_reducible first | exact HB.out | apply below_alloc | apply pw_below_drewN | apply below_drew1 | refine below_set ?_ GE206.out | refine below_set ?_ GE207.out) | exact HB.out)⟩⟩
              ·
               rw [if_neg c64] at H
               exact absurd H (by simp)
             ·
              rw [if_neg c63] at H
              exact absurd H (by simp)
            ·
             rw [if_neg c62] at H
             have c62b0 : decide (x7_4 < (l0_4.length : Int)) = false := decide_eq_false c62
             clear c62
             obtain rfl := Option.some.inj H
             have hnb72 := NB206_207.out
             have hnc72 := NB207_206.out
             have hcz73_0 : wr.cell? ⟨gb206, 0, none⟩ = some (.slice A0_0 l0_0.length c0_0) := (blk_cell BK206.out 0).trans rfl
             have hcz73_1 : wr.cell? ⟨gb206, 1, none⟩ = some (.slice A0_1 l0_1.length c0_1) := (blk_cell BK206.out 1).trans rfl
             have hcz73_2 : wr.cell? ⟨gb206, 2, none⟩ = some (.slice A0_2 l0_2.length c0_2) := (blk_cell BK206.out 2).trans rfl
             have hcz73_3 : wr.cell? ⟨gb206, 3, none⟩ = some (.slice A0_3 l0_3.length c0_3) := (blk_cell BK206.out 3).trans rfl
             have hcz73_4 : wr.cell? ⟨gb206, 4, none⟩ = some (.slice A0_4 l0_4.length c0_4) := (blk_cell BK206.out 4).trans rfl
             have hcz73_5 : wr.cell? ⟨gb206, 5, none⟩ = some (.int .i64 a0_5) := (blk_cell BK206.out 5).trans rfl
             have hcz73_6 : wr.cell? ⟨gb206, 6, none⟩ = some (.int .i64 a0_6) := (blk_cell BK206.out 6).trans rfl
             have hfz73_0 := blk_frozen BK206.out 0
             have hfz73_1 := blk_frozen BK206.out 1
             have hfz73_2 := blk_frozen BK206.out 2
             have hfz73_3 := blk_frozen BK206.out 3
             have hfz73_4 := blk_frozen BK206.out 4
             have hfz73_5 := blk_frozen BK206.out 5
             have hfz73_6 := blk_frozen BK206.out 6
             go_wp2
             repeat (go_quiet (fail); try go_wp2)
             go_ret
             exact ⟨by first | rfl | (simp [errW_none, errW_some] <;> rfl) | (simp [*, errW_none, errW_some] <;> rfl), by repeat (first | (with_reducible first | exact HB.out | apply below_alloc | apply pw_below_drewN | apply below_drew1 | refine below_set ?_ GE206.out | refine below_set ?_ GE207.out) | exact HB.out)⟩
end Go.Proofs.Ytlocnfkkfpfpfaa.Six
