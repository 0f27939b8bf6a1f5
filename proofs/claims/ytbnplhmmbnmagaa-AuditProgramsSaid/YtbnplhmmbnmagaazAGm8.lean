/- A part of the proof of AuditPrograms: walks written by a program of this session. -/
import Derived.Test.YtbnplhmmbnmagaazAGm2
set_option maxHeartbeats 4000000
set_option maxRecDepth 100000
set_option linter.unusedVariables false
set_option linter.unusedSimpArgs false
namespace Go.Proofs.Ytbnplhmmbnmagaa.All
open Go.RowKit Go.Proofs.YtbnplhmmbnmagaaW.PrintWords Go.Proofs.YtbnplhmmbnmagaaW.PrintLast Go.Proofs.YtbnplhmmbnmagaaW.PrintMore
attribute [local go_sem] bZO bZM cZa bZ9 bZj bZi bZN bZL
attribute [local go_sem] Go.Proofs.YtbnplhmmbnmagaaX.binOp_leq Go.Proofs.YtbnplhmmbnmagaaX.binOp_geq Go.Proofs.YtbnplhmmbnmagaaX.binOp_gtr
mutual
def berthref21_Operands.j0:Nat→Int→Bool→Option (Int × Int × Int)
  | 0,_,_=>none
  | k+1,x5,x6=>if x6=true then (some (1,0,0)) else (if x5=3 then (berthref21_Operands.j1 k x5 (x5 == 3)) else (berthref21_Operands.j1 k x5 (x5 == 7)))
def berthref21_Operands.j1:Nat→Int→Bool→Option (Int × Int × Int)
  | 0,_,_=>none
  | k+1,x5,x13=>if x13=true then (some (2,0,0)) else (if x5=4 then (some (3,0,0)) else (if x5=5 then (some (4,0,0)) else (if x5=6 then (some (5,0,0)) else (if x5=12 then (berthref21_Operands.j2 k x5 (x5 == 12)) else (berthref21_Operands.j2 k x5 (x5 == 17))))))
def berthref21_Operands.j2:Nat→Int→Bool→Option (Int × Int × Int)
  | 0,_,_=>none
  | k+1,x5,x22=>if x22=true then (some (1,2,0)) else (if x5=16 then (some (1,2,8)) else (if x5=18 then (berthref21_Operands.j3 k x5 (x5 == 18)) else (berthref21_Operands.j3 k x5 (x5 == 20))))
def berthref21_Operands.j3:Nat→Int→Bool→Option (Int × Int × Int)
  | 0,_,_=>none
  | k+1,x5,x27=>if x27=true then (some (0,2,8)) else (if x5=19 then (berthref21_Operands.j4 k x5 (x5 == 19)) else (if x5=21 then (berthref21_Operands.j4 k x5 (x5 == 21)) else (if x5=22 then (berthref21_Operands.j4 k x5 (x5 == 22)) else (berthref21_Operands.j4 k x5 (x5 == 23)))))
def berthref21_Operands.j4:Nat→Int→Bool→Option (Int × Int × Int)
  | 0,_,_=>none
  | k+1,x5,x30=>if x30=true then (some (0,2,0)) else (if x5=25 then (some (1,0,8)) else (if x5=31 then (berthref21_Operands.j5 k x5 (x5 == 31)) else (berthref21_Operands.j5 k x5 (x5 == 32))))
def berthref21_Operands.j5:Nat→Int→Bool→Option (Int × Int × Int)
  | 0,_,_=>none
  | k+1,x5,x37=>if x37=true then (some (6,0,0)) else (if x5=33 then (some (7,0,0)) else (if x5=34 then (some (7,0,0)) else (some (0,0,0))))
end
def berthref21_Operands.f (k:Nat) (a0:Int):Option (Int × Int × Int):=if a0=1 then (berthref21_Operands.j0 k a0 (a0 == 1)) else (if a0=2 then (berthref21_Operands.j0 k a0 (a0 == 2)) else (if a0=13 then (berthref21_Operands.j0 k a0 (a0 == 13)) else (if a0=14 then (berthref21_Operands.j0 k a0 (a0 == 14)) else (if a0=24 then (berthref21_Operands.j0 k a0 (a0 == 24)) else (berthref21_Operands.j0 k a0 (a0 == 26))))))
theorem berthref21_Operands.mono_l:∀ k,(∀ y0 y1,LeO (berthref21_Operands.j0 k y0 y1) (berthref21_Operands.j0 (k+1) y0 y1))∧(∀ y0 y1,LeO (berthref21_Operands.j1 k y0 y1) (berthref21_Operands.j1 (k+1) y0 y1))∧(∀ y0 y1,LeO (berthref21_Operands.j2 k y0 y1) (berthref21_Operands.j2 (k+1) y0 y1))∧(∀ y0 y1,LeO (berthref21_Operands.j3 k y0 y1) (berthref21_Operands.j3 (k+1) y0 y1))∧(∀ y0 y1,LeO (berthref21_Operands.j4 k y0 y1) (berthref21_Operands.j4 (k+1) y0 y1))∧(∀ y0 y1,LeO (berthref21_Operands.j5 k y0 y1) (berthref21_Operands.j5 (k+1) y0 y1))
  | 0=>⟨fun _ _ r h=>by simp [berthref21_Operands.j0] at h,fun _ _ r h=>by simp [berthref21_Operands.j1] at h,fun _ _ r h=>by simp [berthref21_Operands.j2] at h,fun _ _ r h=>by simp [berthref21_Operands.j3] at h,fun _ _ r h=>by simp [berthref21_Operands.j4] at h,fun _ _ r h=>by simp [berthref21_Operands.j5] at h⟩
  | k+1=>by
    obtain ⟨ih0,ih1,ih2,ih3,ih4,ih5⟩:=berthref21_Operands.mono_l k
    refine ⟨?_,?_,?_,?_,?_,?_⟩
    · intro y0 y1
      unfold berthref21_Operands.j0
      repeat' first
      | (with_reducible exact ih0 _ _)
      | (with_reducible exact ih1 _ _)
      | (with_reducible exact ih2 _ _)
      | (with_reducible exact ih3 _ _)
      | (with_reducible exact ih4 _ _)
      | (with_reducible exact ih5 _ _)
      | (with_reducible exact LeO.refl _)
      | (with_reducible exact LeO.none _)
      | (with_reducible refine LeO.ite ?_ ?_)
      | (with_reducible refine LeO.bind ?_ (fun _=>?_))
      | exact ih0 _ _
      | exact ih1 _ _
      | exact ih2 _ _
      | exact ih3 _ _
      | exact ih4 _ _
      | exact ih5 _ _
      | exact LeO.none _
      | refine LeO.ite ?_ ?_
      | refine LeO.bind ?_ (fun _=>?_)
    · intro y0 y1
      unfold berthref21_Operands.j1
      repeat' first
      | (with_reducible exact ih0 _ _)
      | (with_reducible exact ih1 _ _)
      | (with_reducible exact ih2 _ _)
      | (with_reducible exact ih3 _ _)
      | (with_reducible exact ih4 _ _)
      | (with_reducible exact ih5 _ _)
      | (with_reducible exact LeO.refl _)
      | (with_reducible exact LeO.none _)
      | (with_reducible refine LeO.ite ?_ ?_)
      | (with_reducible refine LeO.bind ?_ (fun _=>?_))
      | exact ih0 _ _
      | exact ih1 _ _
      | exact ih2 _ _
      | exact ih3 _ _
      | exact ih4 _ _
      | exact ih5 _ _
      | exact LeO.none _
      | refine LeO.ite ?_ ?_
      | refine LeO.bind ?_ (fun _=>?_)
    · intro y0 y1
      unfold berthref21_Operands.j2
      repeat' first
      | (with_reducible exact ih0 _ _)
      | (with_reducible exact ih1 _ _)
      | (with_reducible exact ih2 _ _)
      | (with_reducible exact ih3 _ _)
      | (with_reducible exact ih4 _ _)
      | (with_reducible exact ih5 _ _)
      | (with_reducible exact LeO.refl _)
      | (with_reducible exact LeO.none _)
      | (with_reducible refine LeO.ite ?_ ?_)
      | (with_reducible refine LeO.bind ?_ (fun _=>?_))
      | exact ih0 _ _
      | exact ih1 _ _
      | exact ih2 _ _
      | exact ih3 _ _
      | exact ih4 _ _
      | exact ih5 _ _
      | exact LeO.none _
      | refine LeO.ite ?_ ?_
      | refine LeO.bind ?_ (fun _=>?_)
    · intro y0 y1
      unfold berthref21_Operands.j3
      repeat' first
      | (with_reducible exact ih0 _ _)
      | (with_reducible exact ih1 _ _)
      | (with_reducible exact ih2 _ _)
      | (with_reducible exact ih3 _ _)
      | (with_reducible exact ih4 _ _)
      | (with_reducible exact ih5 _ _)
      | (with_reducible exact LeO.refl _)
      | (with_reducible exact LeO.none _)
      | (with_reducible refine LeO.ite ?_ ?_)
      | (with_reducible refine LeO.bind ?_ (fun _=>?_))
      | exact ih0 _ _
      | exact ih1 _ _
      | exact ih2 _ _
      | exact ih3 _ _
      | exact ih4 _ _
      | exact ih5 _ _
      | exact LeO.none _
      | refine LeO.ite ?_ ?_
      | refine LeO.bind ?_ (fun _=>?_)
    · intro y0 y1
      unfold berthref21_Operands.j4
      repeat' first
      | (with_reducible exact ih0 _ _)
      | (with_reducible exact ih1 _ _)
      | (with_reducible exact ih2 _ _)
      | (with_reducible exact ih3 _ _)
      | (with_reducible exact ih4 _ _)
      | (with_reducible exact ih5 _ _)
      | (with_reducible exact LeO.refl _)
      | (with_reducible exact LeO.none _)
      | (with_reducible refine LeO.ite ?_ ?_)
      | (with_reducible refine LeO.bind ?_ (fun _=>?_))
      | exact ih0 _ _
      | exact ih1 _ _
      | exact ih2 _ _
      | exact ih3 _ _
      | exact ih4 _ _
      | exact ih5 _ _
      | exact LeO.none _
      | refine LeO.ite ?_ ?_
      | refine LeO.bind ?_ (fun _=>?_)
    · intro y0 y1
      unfold berthref21_Operands.j5
      repeat' first
      | (with_reducible exact ih0 _ _)
      | (with_reducible exact ih1 _ _)
      | (with_reducible exact ih2 _ _)
      | (with_reducible exact ih3 _ _)
      | (with_reducible exact ih4 _ _)
      | (with_reducible exact ih5 _ _)
      | (with_reducible exact LeO.refl _)
      | (with_reducible exact LeO.none _)
      | (with_reducible refine LeO.ite ?_ ?_)
      | (with_reducible refine LeO.bind ?_ (fun _=>?_))
      | exact ih0 _ _
      | exact ih1 _ _
      | exact ih2 _ _
      | exact ih3 _ _
      | exact ih4 _ _
      | exact ih5 _ _
      | exact LeO.none _
      | refine LeO.ite ?_ ?_
      | refine LeO.bind ?_ (fun _=>?_)
theorem berthref21_Operands.mono:∀ a0 k,LeO (berthref21_Operands.f k a0) (berthref21_Operands.f (k+1) a0):=by
  intro a0 k
  obtain ⟨ih0,ih1,ih2,ih3,ih4,ih5⟩:=berthref21_Operands.mono_l k
  unfold berthref21_Operands.f
  repeat' first
      | (with_reducible exact ih0 _ _)
      | (with_reducible exact ih1 _ _)
      | (with_reducible exact ih2 _ _)
      | (with_reducible exact ih3 _ _)
      | (with_reducible exact ih4 _ _)
      | (with_reducible exact ih5 _ _)
      | (with_reducible exact LeO.refl _)
      | (with_reducible exact LeO.none _)
      | (with_reducible refine LeO.ite ?_ ?_)
      | (with_reducible refine LeO.bind ?_ (fun _=>?_))
      | exact ih0 _ _
      | exact ih1 _ _
      | exact ih2 _ _
      | exact ih3 _ _
      | exact ih4 _ _
      | exact ih5 _ _
      | exact LeO.none _
      | refine LeO.ite ?_ ?_
      | refine LeO.bind ?_ (fun _=>?_)
theorem berthref21_Operands.calls (k:Nat) (a0:Int) (r1:Int) (r2:Int) (r3:Int) (w:World) (h:berthref21_Operands.f k a0=some (r1,r2,r3)) :
 Calls Try.prog 96 #[.int .i64 a0] w fun e w'=>e=.returned (.tuple #[.int .i64 r1,.int .i64 r2,.int .i64 r3])∧Drawn0 w w':=by
 have H:(if a0=1 then (berthref21_Operands.j0 k a0 (a0 == 1)) else (if a0=2 then (berthref21_Operands.j0 k a0 (a0 == 2)) else (if a0=13 then (berthref21_Operands.j0 k a0 (a0 == 13)) else (if a0=14 then (berthref21_Operands.j0 k a0 (a0 == 14)) else (if a0=24 then (berthref21_Operands.j0 k a0 (a0 == 24)) else (berthref21_Operands.j0 k a0 (a0 == 26)))))))=some (r1,r2,r3):=h
 clear h
 have HC2:=Aside0.mk H
 clear H
 go_enter Try.func96,Try.ntmps96
 go_upto_if 6 with (fail)
 go_cut [6] (fun v6 wc=>∃ (kq:Nat) (x6_1:Bool),v6=.bool x6_1∧Aside0 (berthref21_Operands.j0 kq a0 x6_1=some (r1,r2,r3))∧Aside0 (kq≤k)∧Drawn0 w wc)
 case first =>
  have H:=HC2.out
  clear HC2
  by_cases c3:a0=1
  ·
   rw [if_pos c3] at H
   have c3b0:(a0 == 1)=true:=beq_iff_eq.mpr c3
   have c3b1:(a0 != 1)=false:=bne_eq_false_iff_eq.mpr c3
   clear c3
   (first|rw [c3b0]|(simp only [aZk,aZP];rw [c3b0])|skip)
   have H':=Aside0.mk H
   clear H
   go_wp2
   go_meet
   case rel=>exact ⟨_,((a0 == 1)),(by first|rfl|(simp;done)|(simp [*];done)|(simp only [aZk];done)|(simp [aZk,Int.tdiv_eq_ediv_of_nonneg];done)),H',⟨by first|omega|exact Nat.le_refl _⟩,by repeat (first|exact Drawn0.refl _|apply Drawn0.step)⟩
  ·
   rw [if_neg c3] at H
   have c3b0:(a0 == 1)=false:=beq_eq_false_iff_ne.mpr c3
   have c3b1:(a0 != 1)=true:=bne_iff_ne.mpr c3
   (first|rw [c3b0]|(simp only [aZk,aZP];rw [c3b0])|skip)
   by_cases c4:a0=2
   ·
    rw [if_pos c4] at H
    have c4b0:(a0 == 2)=true:=beq_iff_eq.mpr c4
    have c4b1:(a0 != 2)=false:=bne_eq_false_iff_eq.mpr c4
    clear c4
    have H':=Aside0.mk H
    clear H
    go_wp2
    go_meet
    case rel=>exact ⟨_,((a0 == 2)),(by first|rfl|(simp;done)|(simp [*];done)|(simp only [aZk];done)|(simp [aZk,Int.tdiv_eq_ediv_of_nonneg];done)),H',⟨by first|omega|exact Nat.le_refl _⟩,by repeat (first|exact Drawn0.refl _|apply Drawn0.step)⟩
   ·
    rw [if_neg c4] at H
    have c4b0:(a0 == 2)=false:=beq_eq_false_iff_ne.mpr c4
    have c4b1:(a0 != 2)=true:=bne_iff_ne.mpr c4
    by_cases c5:a0=13
    ·
     rw [if_pos c5] at H
     have c5b0:(a0 == 13)=true:=beq_iff_eq.mpr c5
     have c5b1:(a0 != 13)=false:=bne_eq_false_iff_eq.mpr c5
     clear c5
     have H':=Aside0.mk H
     clear H
     go_wp2
     go_meet
     case rel=>exact ⟨_,((a0 == 13)),(by first|rfl|(simp;done)|(simp [*];done)|(simp only [aZk];done)|(simp [aZk,Int.tdiv_eq_ediv_of_nonneg];done)),H',⟨by first|omega|exact Nat.le_refl _⟩,by repeat (first|exact Drawn0.refl _|apply Drawn0.step)⟩
    ·
     rw [if_neg c5] at H
     have c5b0:(a0 == 13)=false:=beq_eq_false_iff_ne.mpr c5
     have c5b1:(a0 != 13)=true:=bne_iff_ne.mpr c5
     by_cases c6:a0=14
     ·
      rw [if_pos c6] at H
      have c6b0:(a0 == 14)=true:=beq_iff_eq.mpr c6
      have c6b1:(a0 != 14)=false:=bne_eq_false_iff_eq.mpr c6
      clear c6
      have H':=Aside0.mk H
      clear H
      go_wp2
      go_meet
      case rel=>exact ⟨_,((a0 == 14)),(by first|rfl|(simp;done)|(simp [*];done)|(simp only [aZk];done)|(simp [aZk,Int.tdiv_eq_ediv_of_nonneg];done)),H',⟨by first|omega|exact Nat.le_refl _⟩,by repeat (first|exact Drawn0.refl _|apply Drawn0.step)⟩
     ·
      rw [if_neg c6] at H
      have c6b0:(a0 == 14)=false:=beq_eq_false_iff_ne.mpr c6
      have c6b1:(a0 != 14)=true:=bne_iff_ne.mpr c6
      by_cases c7:a0=24
      ·
       rw [if_pos c7] at H
       have c7b0:(a0 == 24)=true:=beq_iff_eq.mpr c7
       have c7b1:(a0 != 24)=false:=bne_eq_false_iff_eq.mpr c7
       clear c7
       have H':=Aside0.mk H
       clear H
       go_wp2
       go_meet
       case rel=>exact ⟨_,((a0 == 24)),(by first|rfl|(simp;done)|(simp [*];done)|(simp only [aZk];done)|(simp [aZk,Int.tdiv_eq_ediv_of_nonneg];done)),H',⟨by first|omega|exact Nat.le_refl _⟩,by repeat (first|exact Drawn0.refl _|apply Drawn0.step)⟩
      ·
       rw [if_neg c7] at H
       have c7b0:(a0 == 24)=false:=beq_eq_false_iff_ne.mpr c7
       have c7b1:(a0 != 24)=true:=bne_iff_ne.mpr c7
       have H':=Aside0.mk H
       clear H
       go_wp2
       go_meet
       case rel=>exact ⟨_,((a0 == 26)),(by first|rfl|(simp;done)|(simp [*];done)|(simp only [aZk];done)|(simp [aZk,Int.tdiv_eq_ediv_of_nonneg];done)),H',⟨by first|omega|exact Nat.le_refl _⟩,by repeat (first|exact Drawn0.refl _|apply Drawn0.step)⟩
 case rest =>
  clear HC2
  try clear p2
  try clear c3
  try clear c3b0
  try clear c3b1
  try clear c4
  try clear c4b0
  try clear c4b1
  try clear c5
  try clear c5b0
  try clear c5b1
  try clear c6
  try clear c6b0
  try clear c6b1
  try clear c7
  try clear c7b0
  try clear c7b1
  obtain ⟨kq,x6_1,rfl,HA,HJ1,⟨mc1,rfl⟩⟩:=hcut
  cases kq with
  | zero=>exact absurd HA.out (by simp [berthref21_Operands.j0])
  | succ kj1 =>
   have H:=HA.out
   clear HA
   simp only [berthref21_Operands.j0] at H
   by_cases c8:x6_1=true
   ·
    subst c8
    have H1:(some (1,0,0))=some (r1,r2,r3):=by rw [if_pos rfl] at H;exact H
    clear H
    have H:=H1
    clear H1
    simp only [Option.some.injEq,Prod.mk.injEq] at H
    obtain ⟨rfl,rfl,rfl⟩:=H
    go_wp2
    go_ret3
    exact ⟨by first|rfl|(simp;done)|(simp [*];done)|(simp only [aZk];done)|(simp [aZk,Int.tdiv_eq_ediv_of_nonneg];done),by repeat (first|exact Drawn0.refl _|apply Drawn0.step)⟩
   ·
    replace c8:=Bool.eq_false_iff.mpr c8
    subst c8
    have H1:(if a0=3 then (berthref21_Operands.j1 kj1 a0 (a0 == 3)) else (berthref21_Operands.j1 kj1 a0 (a0 == 7)))=some (r1,r2,r3):=by rw [if_neg (show ¬(false=true) by decide)] at H;exact H
    clear H
    have H:=H1
    clear H1
    have HC9:=Aside0.mk H
    clear H
    go_upto_if 13 with (fail)
    go_cut [13] (fun v13 wc=>∃ (kq:Nat) (x13_8:Bool),v13=.bool x13_8∧Aside0 (berthref21_Operands.j1 kq a0 x13_8=some (r1,r2,r3))∧Aside0 (kq≤kj1)∧Drawn0 w wc)
    case first =>
     have H:=HC9.out
     clear HC9
     by_cases c10:a0=3
     ·
      rw [if_pos c10] at H
      have c10b0:(a0 == 3)=true:=beq_iff_eq.mpr c10
      have c10b1:(a0 != 3)=false:=bne_eq_false_iff_eq.mpr c10
      clear c10
      (first|rw [c10b0]|(simp only [aZk,aZP];rw [c10b0])|skip)
      have H':=Aside0.mk H
      clear H
      go_wp2
      go_meet
      case rel=>exact ⟨_,((a0 == 3)),(by first|rfl|(simp;done)|(simp [*];done)|(simp only [aZk];done)|(simp [aZk,Int.tdiv_eq_ediv_of_nonneg];done)),H',⟨by have:=HJ1.out;first|omega|exact Nat.le_refl _⟩,by repeat (first|exact Drawn0.refl _|apply Drawn0.step)⟩
     ·
      rw [if_neg c10] at H
      have c10b0:(a0 == 3)=false:=beq_eq_false_iff_ne.mpr c10
      have c10b1:(a0 != 3)=true:=bne_iff_ne.mpr c10
      (first|rw [c10b0]|(simp only [aZk,aZP];rw [c10b0])|skip)
      have H':=Aside0.mk H
      clear H
      go_wp2
      go_meet
      case rel=>exact ⟨_,((a0 == 7)),(by first|rfl|(simp;done)|(simp [*];done)|(simp only [aZk];done)|(simp [aZk,Int.tdiv_eq_ediv_of_nonneg];done)),H',⟨by have:=HJ1.out;first|omega|exact Nat.le_refl _⟩,by repeat (first|exact Drawn0.refl _|apply Drawn0.step)⟩
    case rest =>
     clear HC9
     try clear c1
     try clear p2
     try clear c3
     try clear c3b0
     try clear c3b1
     try clear c4
     try clear c4b0
     try clear c4b1
     try clear c5
     try clear c5b0
     try clear c5b1
     try clear c6
     try clear c6b0
     try clear c6b1
     try clear c7
     try clear c7b0
     try clear c7b1
     try clear c8
     try clear c9
     try clear c10
     try clear c10b0
     try clear c10b1
     try clear p2
     obtain ⟨kq,x13_8,rfl,HA,HJ8,⟨mc8,rfl⟩⟩:=hcut
     cases kq with
     | zero=>exact absurd HA.out (by simp [berthref21_Operands.j1])
     | succ kj8 =>
      have H:=HA.out
      clear HA
      simp only [berthref21_Operands.j1] at H
      by_cases c11:x13_8=true
      ·
       subst c11
       have H1:(some (2,0,0))=some (r1,r2,r3):=by rw [if_pos rfl] at H;exact H
       clear H
       have H:=H1
       clear H1
       simp only [Option.some.injEq,Prod.mk.injEq] at H
       obtain ⟨rfl,rfl,rfl⟩:=H
       go_wp2
       go_ret3
       exact ⟨by first|rfl|(simp;done)|(simp [*];done)|(simp only [aZk];done)|(simp [aZk,Int.tdiv_eq_ediv_of_nonneg];done),by repeat (first|exact Drawn0.refl _|apply Drawn0.step)⟩
      ·
       replace c11:=Bool.eq_false_iff.mpr c11
       subst c11
       have H1:(if a0=4 then (some (3,0,0)) else (if a0=5 then (some (4,0,0)) else (if a0=6 then (some (5,0,0)) else (if a0=12 then (berthref21_Operands.j2 kj8 a0 (a0 == 12)) else (berthref21_Operands.j2 kj8 a0 (a0 == 17))))))=some (r1,r2,r3):=by rw [if_neg (show ¬(false=true) by decide)] at H;exact H
       clear H
       have H:=H1
       clear H1
       by_cases c12:a0=4
       ·
        rw [if_pos c12] at H
        have c12b0:(a0 == 4)=true:=beq_iff_eq.mpr c12
        have c12b1:(a0 != 4)=false:=bne_eq_false_iff_eq.mpr c12
        clear c12
        simp only [Option.some.injEq,Prod.mk.injEq] at H
        obtain ⟨rfl,rfl,rfl⟩:=H
        go_wp2
        go_ret3
        exact ⟨by first|rfl|(simp;done)|(simp [*];done)|(simp only [aZk];done)|(simp [aZk,Int.tdiv_eq_ediv_of_nonneg];done),by repeat (first|exact Drawn0.refl _|apply Drawn0.step)⟩
       ·
        rw [if_neg c12] at H
        have c12b0:(a0 == 4)=false:=beq_eq_false_iff_ne.mpr c12
        have c12b1:(a0 != 4)=true:=bne_iff_ne.mpr c12
        by_cases c13:a0=5
        ·
         rw [if_pos c13] at H
         have c13b0:(a0 == 5)=true:=beq_iff_eq.mpr c13
         have c13b1:(a0 != 5)=false:=bne_eq_false_iff_eq.mpr c13
         clear c13
         simp only [Option.some.injEq,Prod.mk.injEq] at H
         obtain ⟨rfl,rfl,rfl⟩:=H
         go_wp2
         go_ret3
         exact ⟨by first|rfl|(simp;done)|(simp [*];done)|(simp only [aZk];done)|(simp [aZk,Int.tdiv_eq_ediv_of_nonneg];done),by repeat (first|exact Drawn0.refl _|apply Drawn0.step)⟩
        ·
         rw [if_neg c13] at H
         have c13b0:(a0 == 5)=false:=beq_eq_false_iff_ne.mpr c13
         have c13b1:(a0 != 5)=true:=bne_iff_ne.mpr c13
         by_cases c14:a0=6
         ·
          rw [if_pos c14] at H
          have c14b0:(a0 == 6)=true:=beq_iff_eq.mpr c14
          have c14b1:(a0 != 6)=false:=bne_eq_false_iff_eq.mpr c14
          clear c14
          simp only [Option.some.injEq,Prod.mk.injEq] at H
          obtain ⟨rfl,rfl,rfl⟩:=H
          go_wp2
          go_ret3
          exact ⟨by first|rfl|(simp;done)|(simp [*];done)|(simp only [aZk];done)|(simp [aZk,Int.tdiv_eq_ediv_of_nonneg];done),by repeat (first|exact Drawn0.refl _|apply Drawn0.step)⟩
         ·
          rw [if_neg c14] at H
          have c14b0:(a0 == 6)=false:=beq_eq_false_iff_ne.mpr c14
          have c14b1:(a0 != 6)=true:=bne_iff_ne.mpr c14
          have HC15:=Aside0.mk H
          clear H
          go_upto_if 22 with (fail)
          go_cut [22] (fun v22 wc=>∃ (kq:Nat) (x22_14:Bool),v22=.bool x22_14∧Aside0 (berthref21_Operands.j2 kq a0 x22_14=some (r1,r2,r3))∧Aside0 (kq≤kj8)∧Drawn0 w wc)
          case first =>
           have H:=HC15.out
           clear HC15
           by_cases c16:a0=12
           ·
            rw [if_pos c16] at H
            have c16b0:(a0 == 12)=true:=beq_iff_eq.mpr c16
            have c16b1:(a0 != 12)=false:=bne_eq_false_iff_eq.mpr c16
            clear c16
            (first|rw [c16b0]|(simp only [aZk,aZP];rw [c16b0])|skip)
            have H':=Aside0.mk H
            clear H
            go_wp2
            go_meet
            case rel=>exact ⟨_,((a0 == 12)),(by first|rfl|(simp;done)|(simp [*];done)|(simp only [aZk];done)|(simp [aZk,Int.tdiv_eq_ediv_of_nonneg];done)),H',⟨by have:=HJ1.out;have:=HJ8.out;first|omega|exact Nat.le_refl _⟩,by repeat (first|exact Drawn0.refl _|apply Drawn0.step)⟩
           ·
            rw [if_neg c16] at H
            have c16b0:(a0 == 12)=false:=beq_eq_false_iff_ne.mpr c16
            have c16b1:(a0 != 12)=true:=bne_iff_ne.mpr c16
            (first|rw [c16b0]|(simp only [aZk,aZP];rw [c16b0])|skip)
            have H':=Aside0.mk H
            clear H
            go_wp2
            go_meet
            case rel=>exact ⟨_,((a0 == 17)),(by first|rfl|(simp;done)|(simp [*];done)|(simp only [aZk];done)|(simp [aZk,Int.tdiv_eq_ediv_of_nonneg];done)),H',⟨by have:=HJ1.out;have:=HJ8.out;first|omega|exact Nat.le_refl _⟩,by repeat (first|exact Drawn0.refl _|apply Drawn0.step)⟩
          case rest =>
           clear HC15
           try clear c1
           try clear p2
           try clear c3
           try clear c3b0
           try clear c3b1
           try clear c4
           try clear c4b0
           try clear c4b1
           try clear c5
           try clear c5b0
           try clear c5b1
           try clear c6
           try clear c6b0
           try clear c6b1
           try clear c7
           try clear c7b0
           try clear c7b1
           try clear c8
           try clear c9
           try clear c10
           try clear c10b0
           try clear c10b1
           try clear c11
           try clear c12
           try clear c12b0
           try clear c12b1
           try clear c13
           try clear c13b0
           try clear c13b1
           try clear c14
           try clear c14b0
           try clear c14b1
           try clear c16
           try clear c16b0
           try clear c16b1
           try clear p2
           obtain ⟨kq,x22_14,rfl,HA,HJ14,⟨mc14,rfl⟩⟩:=hcut
           cases kq with
           | zero=>exact absurd HA.out (by simp [berthref21_Operands.j2])
           | succ kj14 =>
            have H:=HA.out
            clear HA
            simp only [berthref21_Operands.j2] at H
            by_cases c17:x22_14=true
            ·
             subst c17
             have H1:(some (1,2,0))=some (r1,r2,r3):=by rw [if_pos rfl] at H;exact H
             clear H
             have H:=H1
             clear H1
             simp only [Option.some.injEq,Prod.mk.injEq] at H
             obtain ⟨rfl,rfl,rfl⟩:=H
             go_wp2
             go_ret3
             exact ⟨by first|rfl|(simp;done)|(simp [*];done)|(simp only [aZk];done)|(simp [aZk,Int.tdiv_eq_ediv_of_nonneg];done),by repeat (first|exact Drawn0.refl _|apply Drawn0.step)⟩
            ·
             replace c17:=Bool.eq_false_iff.mpr c17
             subst c17
             have H1:(if a0=16 then (some (1,2,8)) else (if a0=18 then (berthref21_Operands.j3 kj14 a0 (a0 == 18)) else (berthref21_Operands.j3 kj14 a0 (a0 == 20))))=some (r1,r2,r3):=by rw [if_neg (show ¬(false=true) by decide)] at H;exact H
             clear H
             have H:=H1
             clear H1
             by_cases c18:a0=16
             ·
              rw [if_pos c18] at H
              have c18b0:(a0 == 16)=true:=beq_iff_eq.mpr c18
              have c18b1:(a0 != 16)=false:=bne_eq_false_iff_eq.mpr c18
              clear c18
              simp only [Option.some.injEq,Prod.mk.injEq] at H
              obtain ⟨rfl,rfl,rfl⟩:=H
              go_wp2
              go_ret3
              exact ⟨by first|rfl|(simp;done)|(simp [*];done)|(simp only [aZk];done)|(simp [aZk,Int.tdiv_eq_ediv_of_nonneg];done),by repeat (first|exact Drawn0.refl _|apply Drawn0.step)⟩
             ·
              rw [if_neg c18] at H
              have c18b0:(a0 == 16)=false:=beq_eq_false_iff_ne.mpr c18
              have c18b1:(a0 != 16)=true:=bne_iff_ne.mpr c18
              have HC19:=Aside0.mk H
              clear H
              go_upto_if 27 with (fail)
              go_cut [27] (fun v27 wc=>∃ (kq:Nat) (x27_18:Bool),v27=.bool x27_18∧Aside0 (berthref21_Operands.j3 kq a0 x27_18=some (r1,r2,r3))∧Aside0 (kq≤kj14)∧Drawn0 w wc)
              case first =>
               have H:=HC19.out
               clear HC19
               by_cases c20:a0=18
               ·
                rw [if_pos c20] at H
                have c20b0:(a0 == 18)=true:=beq_iff_eq.mpr c20
                have c20b1:(a0 != 18)=false:=bne_eq_false_iff_eq.mpr c20
                clear c20
                (first|rw [c20b0]|(simp only [aZk,aZP];rw [c20b0])|skip)
                have H':=Aside0.mk H
                clear H
                go_wp2
                go_meet
                case rel=>exact ⟨_,((a0 == 18)),(by first|rfl|(simp;done)|(simp [*];done)|(simp only [aZk];done)|(simp [aZk,Int.tdiv_eq_ediv_of_nonneg];done)),H',⟨by have:=HJ1.out;have:=HJ8.out;have:=HJ14.out;first|omega|exact Nat.le_refl _⟩,by repeat (first|exact Drawn0.refl _|apply Drawn0.step)⟩
               ·
                rw [if_neg c20] at H
                have c20b0:(a0 == 18)=false:=beq_eq_false_iff_ne.mpr c20
                have c20b1:(a0 != 18)=true:=bne_iff_ne.mpr c20
                (first|rw [c20b0]|(simp only [aZk,aZP];rw [c20b0])|skip)
                have H':=Aside0.mk H
                clear H
                go_wp2
                go_meet
                case rel=>exact ⟨_,((a0 == 20)),(by first|rfl|(simp;done)|(simp [*];done)|(simp only [aZk];done)|(simp [aZk,Int.tdiv_eq_ediv_of_nonneg];done)),H',⟨by have:=HJ1.out;have:=HJ8.out;have:=HJ14.out;first|omega|exact Nat.le_refl _⟩,by repeat (first|exact Drawn0.refl _|apply Drawn0.step)⟩
              case rest =>
               clear HC19
               try clear c1
               try clear c2
               try clear p2
               try clear c3
               try clear c3b0
               try clear c3b1
               try clear c4
               try clear c4b0
               try clear c4b1
               try clear c5
               try clear c5b0
               try clear c5b1
               try clear c6
               try clear c6b0
               try clear c6b1
               try clear c7
               try clear c7b0
               try clear c7b1
               try clear c8
               try clear c9
               try clear c10
               try clear c10b0
               try clear c10b1
               try clear c11
               try clear c12
               try clear c12b0
               try clear c12b1
               try clear c13
               try clear c13b0
               try clear c13b1
               try clear c14
               try clear c14b0
               try clear c14b1
               try clear c16
               try clear c16b0
               try clear c16b1
               try clear c17
               try clear c18
               try clear c18b0
               try clear c18b1
               try clear c20
               try clear c20b0
               try clear c20b1
               try clear p2
               obtain ⟨kq,x27_18,rfl,HA,HJ18,⟨mc18,rfl⟩⟩:=hcut
               cases kq with
               | zero=>exact absurd HA.out (by simp [berthref21_Operands.j3])
               | succ kj18 =>
                have H:=HA.out
                clear HA
                simp only [berthref21_Operands.j3] at H
                by_cases c21:x27_18=true
                ·
                 subst c21
                 have H1:(some (0,2,8))=some (r1,r2,r3):=by rw [if_pos rfl] at H;exact H
                 clear H
                 have H:=H1
                 clear H1
                 simp only [Option.some.injEq,Prod.mk.injEq] at H
                 obtain ⟨rfl,rfl,rfl⟩:=H
                 go_wp2
                 go_ret3
                 exact ⟨by first|rfl|(simp;done)|(simp [*];done)|(simp only [aZk];done)|(simp [aZk,Int.tdiv_eq_ediv_of_nonneg];done),by repeat (first|exact Drawn0.refl _|apply Drawn0.step)⟩
                ·
                 replace c21:=Bool.eq_false_iff.mpr c21
                 subst c21
                 have H1:(if a0=19 then (berthref21_Operands.j4 kj18 a0 (a0 == 19)) else (if a0=21 then (berthref21_Operands.j4 kj18 a0 (a0 == 21)) else (if a0=22 then (berthref21_Operands.j4 kj18 a0 (a0 == 22)) else (berthref21_Operands.j4 kj18 a0 (a0 == 23)))))=some (r1,r2,r3):=by rw [if_neg (show ¬(false=true) by decide)] at H;exact H
                 clear H
                 have H:=H1
                 clear H1
                 have HC22:=Aside0.mk H
                 clear H
                 go_upto_if 30 with (fail)
                 go_cut [30] (fun v30 wc=>∃ (kq:Nat) (x30_21:Bool),v30=.bool x30_21∧Aside0 (berthref21_Operands.j4 kq a0 x30_21=some (r1,r2,r3))∧Aside0 (kq≤kj18)∧Drawn0 w wc)
                 case first =>
                  have H:=HC22.out
                  clear HC22
                  by_cases c23:a0=19
                  ·
                   rw [if_pos c23] at H
                   have c23b0:(a0 == 19)=true:=beq_iff_eq.mpr c23
                   have c23b1:(a0 != 19)=false:=bne_eq_false_iff_eq.mpr c23
                   clear c23
                   (first|rw [c23b0]|(simp only [aZk,aZP];rw [c23b0])|skip)
                   have H':=Aside0.mk H
                   clear H
                   go_wp2
                   go_meet
                   case rel=>exact ⟨_,((a0 == 19)),(by first|rfl|(simp;done)|(simp [*];done)|(simp only [aZk];done)|(simp [aZk,Int.tdiv_eq_ediv_of_nonneg];done)),H',⟨by have:=HJ1.out;have:=HJ8.out;have:=HJ14.out;have:=HJ18.out;first|omega|exact Nat.le_refl _⟩,by repeat (first|exact Drawn0.refl _|apply Drawn0.step)⟩
                  ·
                   rw [if_neg c23] at H
                   have c23b0:(a0 == 19)=false:=beq_eq_false_iff_ne.mpr c23
                   have c23b1:(a0 != 19)=true:=bne_iff_ne.mpr c23
                   (first|rw [c23b0]|(simp only [aZk,aZP];rw [c23b0])|skip)
                   by_cases c24:a0=21
                   ·
                    rw [if_pos c24] at H
                    have c24b0:(a0 == 21)=true:=beq_iff_eq.mpr c24
                    have c24b1:(a0 != 21)=false:=bne_eq_false_iff_eq.mpr c24
                    clear c24
                    have H':=Aside0.mk H
                    clear H
                    go_wp2
                    go_meet
                    case rel=>exact ⟨_,((a0 == 21)),(by first|rfl|(simp;done)|(simp [*];done)|(simp only [aZk];done)|(simp [aZk,Int.tdiv_eq_ediv_of_nonneg];done)),H',⟨by have:=HJ1.out;have:=HJ8.out;have:=HJ14.out;have:=HJ18.out;first|omega|exact Nat.le_refl _⟩,by repeat (first|exact Drawn0.refl _|apply Drawn0.step)⟩
                   ·
                    rw [if_neg c24] at H
                    have c24b0:(a0 == 21)=false:=beq_eq_false_iff_ne.mpr c24
                    have c24b1:(a0 != 21)=true:=bne_iff_ne.mpr c24
                    by_cases c25:a0=22
                    ·
                     rw [if_pos c25] at H
                     have c25b0:(a0 == 22)=true:=beq_iff_eq.mpr c25
                     have c25b1:(a0 != 22)=false:=bne_eq_false_iff_eq.mpr c25
                     clear c25
                     have H':=Aside0.mk H
                     clear H
                     go_wp2
                     go_meet
                     case rel=>exact ⟨_,((a0 == 22)),(by first|rfl|(simp;done)|(simp [*];done)|(simp only [aZk];done)|(simp [aZk,Int.tdiv_eq_ediv_of_nonneg];done)),H',⟨by have:=HJ1.out;have:=HJ8.out;have:=HJ14.out;have:=HJ18.out;first|omega|exact Nat.le_refl _⟩,by repeat (first|exact Drawn0.refl _|apply Drawn0.step)⟩
                    ·
                     rw [if_neg c25] at H
                     have c25b0:(a0 == 22)=false:=beq_eq_false_iff_ne.mpr c25
                     have c25b1:(a0 != 22)=true:=bne_iff_ne.mpr c25
                     have H':=Aside0.mk H
                     clear H
                     go_wp2
                     go_meet
                     case rel=>exact ⟨_,((a0 == 23)),(by first|rfl|(simp;done)|(simp [*];done)|(simp only [aZk];done)|(simp [aZk,Int.tdiv_eq_ediv_of_nonneg];done)),H',⟨by have:=HJ1.out;have:=HJ8.out;have:=HJ14.out;have:=HJ18.out;first|omega|exact Nat.le_refl _⟩,by repeat (first|exact Drawn0.refl _|apply Drawn0.step)⟩
                 case rest =>
                  clear HC22
                  try clear c1
                  try clear c2
                  try clear p2
                  try clear c3
                  try clear c3b0
                  try clear c3b1
                  try clear c4
                  try clear c4b0
                  try clear c4b1
                  try clear c5
                  try clear c5b0
                  try clear c5b1
                  try clear c6
                  try clear c6b0
                  try clear c6b1
                  try clear c7
                  try clear c7b0
                  try clear c7b1
                  try clear c8
                  try clear c9
                  try clear c10
                  try clear c10b0
                  try clear c10b1
                  try clear c11
                  try clear c12
                  try clear c12b0
                  try clear c12b1
                  try clear c13
                  try clear c13b0
                  try clear c13b1
                  try clear c14
                  try clear c14b0
                  try clear c14b1
                  try clear c16
                  try clear c16b0
                  try clear c16b1
                  try clear c17
                  try clear c18
                  try clear c18b0
                  try clear c18b1
                  try clear c20
                  try clear c20b0
                  try clear c20b1
                  try clear c21
                  try clear c23
                  try clear c23b0
                  try clear c23b1
                  try clear c24
                  try clear c24b0
                  try clear c24b1
                  try clear c25
                  try clear c25b0
                  try clear c25b1
                  try clear p2
                  obtain ⟨kq,x30_21,rfl,HA,HJ21,⟨mc21,rfl⟩⟩:=hcut
                  cases kq with
                  | zero=>exact absurd HA.out (by simp [berthref21_Operands.j4])
                  | succ kj21 =>
                   have H:=HA.out
                   clear HA
                   simp only [berthref21_Operands.j4] at H
                   by_cases c26:x30_21=true
                   ·
                    subst c26
                    have H1:(some (0,2,0))=some (r1,r2,r3):=by rw [if_pos rfl] at H;exact H
                    clear H
                    have H:=H1
                    clear H1
                    simp only [Option.some.injEq,Prod.mk.injEq] at H
                    obtain ⟨rfl,rfl,rfl⟩:=H
                    go_wp2
                    go_ret3
                    exact ⟨by first|rfl|(simp;done)|(simp [*];done)|(simp only [aZk];done)|(simp [aZk,Int.tdiv_eq_ediv_of_nonneg];done),by repeat (first|exact Drawn0.refl _|apply Drawn0.step)⟩
                   ·
                    replace c26:=Bool.eq_false_iff.mpr c26
                    subst c26
                    have H1:(if a0=25 then (some (1,0,8)) else (if a0=31 then (berthref21_Operands.j5 kj21 a0 (a0 == 31)) else (berthref21_Operands.j5 kj21 a0 (a0 == 32))))=some (r1,r2,r3):=by rw [if_neg (show ¬(false=true) by decide)] at H;exact H
                    clear H
                    have H:=H1
                    clear H1
                    by_cases c27:a0=25
                    ·
                     rw [if_pos c27] at H
                     have c27b0:(a0 == 25)=true:=beq_iff_eq.mpr c27
                     have c27b1:(a0 != 25)=false:=bne_eq_false_iff_eq.mpr c27
                     clear c27
                     simp only [Option.some.injEq,Prod.mk.injEq] at H
                     obtain ⟨rfl,rfl,rfl⟩:=H
                     go_wp2
                     go_ret3
                     exact ⟨by first|rfl|(simp;done)|(simp [*];done)|(simp only [aZk];done)|(simp [aZk,Int.tdiv_eq_ediv_of_nonneg];done),by repeat (first|exact Drawn0.refl _|apply Drawn0.step)⟩
                    ·
                     rw [if_neg c27] at H
                     have c27b0:(a0 == 25)=false:=beq_eq_false_iff_ne.mpr c27
                     have c27b1:(a0 != 25)=true:=bne_iff_ne.mpr c27
                     have HC28:=Aside0.mk H
                     clear H
                     go_upto_if 37 with (fail)
                     go_cut [37] (fun v37 wc=>∃ (kq:Nat) (x37_27:Bool),v37=.bool x37_27∧Aside0 (berthref21_Operands.j5 kq a0 x37_27=some (r1,r2,r3))∧Aside0 (kq≤kj21)∧Drawn0 w wc)
                     case first =>
                      have H:=HC28.out
                      clear HC28
                      by_cases c29:a0=31
                      ·
                       rw [if_pos c29] at H
                       have c29b0:(a0 == 31)=true:=beq_iff_eq.mpr c29
                       have c29b1:(a0 != 31)=false:=bne_eq_false_iff_eq.mpr c29
                       clear c29
                       (first|rw [c29b0]|(simp only [aZk,aZP];rw [c29b0])|skip)
                       have H':=Aside0.mk H
                       clear H
                       go_wp2
                       go_meet
                       case rel=>exact ⟨_,((a0 == 31)),(by first|rfl|(simp;done)|(simp [*];done)|(simp only [aZk];done)|(simp [aZk,Int.tdiv_eq_ediv_of_nonneg];done)),H',⟨by have:=HJ1.out;have:=HJ8.out;have:=HJ14.out;have:=HJ18.out;have:=HJ21.out;first|omega|exact Nat.le_refl _⟩,by repeat (first|exact Drawn0.refl _|apply Drawn0.step)⟩
                      ·
                       rw [if_neg c29] at H
                       have c29b0:(a0 == 31)=false:=beq_eq_false_iff_ne.mpr c29
                       have c29b1:(a0 != 31)=true:=bne_iff_ne.mpr c29
                       (first|rw [c29b0]|(simp only [aZk,aZP];rw [c29b0])|skip)
                       have H':=Aside0.mk H
                       clear H
                       go_wp2
                       go_meet
                       case rel=>exact ⟨_,((a0 == 32)),(by first|rfl|(simp;done)|(simp [*];done)|(simp only [aZk];done)|(simp [aZk,Int.tdiv_eq_ediv_of_nonneg];done)),H',⟨by have:=HJ1.out;have:=HJ8.out;have:=HJ14.out;have:=HJ18.out;have:=HJ21.out;first|omega|exact Nat.le_refl _⟩,by repeat (first|exact Drawn0.refl _|apply Drawn0.step)⟩
                     case rest =>
                      clear HC28
                      try clear c1
                      try clear c2
                      try clear p2
                      try clear c3
                      try clear c3b0
                      try clear c3b1
                      try clear c4
                      try clear c4b0
                      try clear c4b1
                      try clear c5
                      try clear c5b0
                      try clear c5b1
                      try clear c6
                      try clear c6b0
                      try clear c6b1
                      try clear c7
                      try clear c7b0
                      try clear c7b1
                      try clear c8
                      try clear c9
                      try clear c10
                      try clear c10b0
                      try clear c10b1
                      try clear c11
                      try clear c12
                      try clear c12b0
                      try clear c12b1
                      try clear c13
                      try clear c13b0
                      try clear c13b1
                      try clear c14
                      try clear c14b0
                      try clear c14b1
                      try clear c16
                      try clear c16b0
                      try clear c16b1
                      try clear c17
                      try clear c18
                      try clear c18b0
                      try clear c18b1
                      try clear c20
                      try clear c20b0
                      try clear c20b1
                      try clear c21
                      try clear c23
                      try clear c23b0
                      try clear c23b1
                      try clear c24
                      try clear c24b0
                      try clear c24b1
                      try clear c25
                      try clear c25b0
                      try clear c25b1
                      try clear c26
                      try clear c27
                      try clear c27b0
                      try clear c27b1
                      try clear c29
                      try clear c29b0
                      try clear c29b1
                      try clear p2
                      obtain ⟨kq,x37_27,rfl,HA,HJ27,⟨mc27,rfl⟩⟩:=hcut
                      cases kq with
                      | zero=>exact absurd HA.out (by simp [berthref21_Operands.j5])
                      | succ kj27 =>
                       have H:=HA.out
                       clear HA
                       simp only [berthref21_Operands.j5] at H
                       by_cases c30:x37_27=true
                       ·
                        subst c30
                        have H1:(some (6,0,0))=some (r1,r2,r3):=by rw [if_pos rfl] at H;exact H
                        clear H
                        have H:=H1
                        clear H1
                        simp only [Option.some.injEq,Prod.mk.injEq] at H
                        obtain ⟨rfl,rfl,rfl⟩:=H
                        go_wp2
                        go_ret3
                        exact ⟨by first|rfl|(simp;done)|(simp [*];done)|(simp only [aZk];done)|(simp [aZk,Int.tdiv_eq_ediv_of_nonneg];done),by repeat (first|exact Drawn0.refl _|apply Drawn0.step)⟩
                       ·
                        replace c30:=Bool.eq_false_iff.mpr c30
                        subst c30
                        have H1:(if a0=33 then (some (7,0,0)) else (if a0=34 then (some (7,0,0)) else (some (0,0,0))))=some (r1,r2,r3):=by rw [if_neg (show ¬(false=true) by decide)] at H;exact H
                        clear H
                        have H:=H1
                        clear H1
                        by_cases c31:a0=33
                        ·
                         rw [if_pos c31] at H
                         have c31b0:(a0 == 33)=true:=beq_iff_eq.mpr c31
                         have c31b1:(a0 != 33)=false:=bne_eq_false_iff_eq.mpr c31
                         clear c31
                         simp only [Option.some.injEq,Prod.mk.injEq] at H
                         obtain ⟨rfl,rfl,rfl⟩:=H
                         go_wp2
                         go_ret3
                         exact ⟨by first|rfl|(simp;done)|(simp [*];done)|(simp only [aZk];done)|(simp [aZk,Int.tdiv_eq_ediv_of_nonneg];done),by repeat (first|exact Drawn0.refl _|apply Drawn0.step)⟩
                        ·
                         rw [if_neg c31] at H
                         have c31b0:(a0 == 33)=false:=beq_eq_false_iff_ne.mpr c31
                         have c31b1:(a0 != 33)=true:=bne_iff_ne.mpr c31
                         by_cases c32:a0=34
                         ·
                          rw [if_pos c32] at H
                          have c32b0:(a0 == 34)=true:=beq_iff_eq.mpr c32
                          have c32b1:(a0 != 34)=false:=bne_eq_false_iff_eq.mpr c32
                          clear c32
                          simp only [Option.some.injEq,Prod.mk.injEq] at H
                          obtain ⟨rfl,rfl,rfl⟩:=H
                          go_wp2
                          go_ret3
                          exact ⟨by first|rfl|(simp;done)|(simp [*];done)|(simp only [aZk];done)|(simp [aZk,Int.tdiv_eq_ediv_of_nonneg];done),by repeat (first|exact Drawn0.refl _|apply Drawn0.step)⟩
                         ·
                          rw [if_neg c32] at H
                          have c32b0:(a0 == 34)=false:=beq_eq_false_iff_ne.mpr c32
                          have c32b1:(a0 != 34)=true:=bne_iff_ne.mpr c32
                          simp only [Option.some.injEq,Prod.mk.injEq] at H
                          obtain ⟨rfl,rfl,rfl⟩:=H
                          go_wp2
                          go_ret3
                          exact ⟨by first|rfl|(simp;done)|(simp [*];done)|(simp only [aZk];done)|(simp [aZk,Int.tdiv_eq_ediv_of_nonneg];done),by repeat (first|exact Drawn0.refl _|apply Drawn0.step)⟩
end Go.Proofs.Ytbnplhmmbnmagaa.All
