/- A part of the proof of AuditPrograms: walks written by a program of this session. -/
import Derived.Test.YtbnplhmmbnmagaazAGm2
set_option maxHeartbeats 4000000
set_option maxRecDepth 100000
set_option linter.unusedVariables false
set_option linter.unusedSimpArgs false
namespace Go.Proofs.Ytbnplhmmbnmagaa.All
open Go.RowKit Go.Proofs.YtbnplhmmbnmagaaW.PrintWords Go.Proofs.YtbnplhmmbnmagaaW.PrintLast Go.Proofs.YtbnplhmmbnmagaaW.PrintMore
attribute [local go_sem] bZO bZM cZa bZ9 bZj bZi bZN bZL
attribute [local go_sem] Go.Proofs.YtbnplhmmbnmagaaX.binOp_leq Go.Proofs.YtbnplhmmbnmagaaX.binOp_geq Go.Proofs.YtbnplhmmbnmagaaX.binOp_gtr
mutual
def berthref21_Effect.j0:Nat→Int→Int→Bool→Option (List Int × Int)
  | 0,_,_,_=>none
  | k+1,x1,x6,x7=>if x7=true then (some (([]:List Int),wrap64 (1+x1))) else (if x6=3 then (berthref21_Effect.j1 k x1 x6 (x6 == 3)) else (if x6=7 then (berthref21_Effect.j1 k x1 x6 (x6 == 7)) else (berthref21_Effect.j1 k x1 x6 (x6 == 8))))
def berthref21_Effect.j1:Nat→Int→Int→Bool→Option (List Int × Int)
  | 0,_,_,_=>none
  | k+1,x1,x6,x12=>if x12=true then (some (([]:List Int),3)) else (if x6=4 then (berthref21_Effect.j2 k x1 x6 (x6 == 4)) else (berthref21_Effect.j2 k x1 x6 (x6 == 9)))
def berthref21_Effect.j2:Nat→Int→Int→Bool→Option (List Int × Int)
  | 0,_,_,_=>none
  | k+1,x1,x6,x16=>if x16=true then (some (([]:List Int),5)) else (if x6=5 then (some (([]:List Int),4)) else (if x6=6 then (some (([]:List Int),6)) else (if x6=10 then (some ((([3]:List Int)),5)) else (if x6=11 then (some ((([3]:List Int)),4)) else (if x6=12 then (berthref21_Effect.j3 k x1 x6 (x6 == 12)) else (if x6=13 then (berthref21_Effect.j3 k x1 x6 (x6 == 13)) else (berthref21_Effect.j3 k x1 x6 (x6 == 14))))))))
def berthref21_Effect.j3:Nat→Int→Int→Bool→Option (List Int × Int)
  | 0,_,_,_=>none
  | k+1,x1,x6,x29=>if x29=true then (some ((([5]:List Int)),wrap64 (1+x1))) else (if x6=15 then (some ((([5]:List Int)),1)) else (if x6=16 then (some ((([4]:List Int)),wrap64 (1+x1))) else (if x6=17 then (some ((([6]:List Int)),wrap64 (1+x1))) else (if x6=18 then (some ((([4]:List Int)),1)) else (if x6=19 then (some ((([6]:List Int)),1)) else (if x6=20 then (some ((([2,4]:List Int)),1)) else (if x6=21 then (some ((([2,6]:List Int)),1)) else (if x6=22 then (some ((([2]:List Int)),1)) else (if x6=23 then (some (([]:List Int),1)) else (if x6=24 then (some ((([3,5]:List Int)),wrap64 (1+x1))) else (if x6=25 then (some ((([4,4]:List Int)),wrap64 (1+x1))) else (if x6=26 then (some ((([4,6]:List Int)),wrap64 (1+x1))) else (if x6=36 then (some ((([1]:List Int)),0)) else (some (([]:List Int),0)))))))))))))))
end
def berthref21_Effect.f (k:Nat) (a0:Int) (a1:Int):Option (List Int × Int):=if a0=1 then (berthref21_Effect.j0 k a1 a0 (a0 == 1)) else (berthref21_Effect.j0 k a1 a0 (a0 == 2))
theorem berthref21_Effect.calls (k:Nat) (a0:Int) (a1:Int) (r1:List Int) (r2:Int) (w:World) (h:berthref21_Effect.f k a0 a1=some (r1,r2)) :
 Calls Try.prog 38 #[.int .i64 a0,.int .i64 a1] w fun e w'=>∃ v0_:Value,e=.returned (.tuple #[v0_,.int .i64 r2])∧Kd.R (Kd.int .i64) 3 w' w.heap.size (fun _=>True) v0_ r1∧Below w.heap.size w w':=by
 have HB:=Aside0.mk (Below.refl w.heap.size w)
 have H:(if a0=1 then (berthref21_Effect.j0 k a1 a0 (a0 == 1)) else (berthref21_Effect.j0 k a1 a0 (a0 == 2)))=some (r1,r2):=h
 clear h
 have HC3:=Aside0.mk H
 clear H
 go_enter Try.func38,Try.ntmps38
 go_upto_if 7 with (fail)
 go_cut [7] (fun v7 wc=>∃ (kq:Nat) (x7_2:Bool),v7=.bool x7_2∧Aside0 (berthref21_Effect.j0 kq a1 a0 x7_2=some (r1,r2))∧Aside0 (kq≤k)∧Aside0 (Below w.heap.size w wc))
 case first =>
  have H:=HC3.out
  clear HC3
  by_cases c4:a0=1
  ·
   rw [if_pos c4] at H
   have c4b0:(a0 == 1)=true:=beq_iff_eq.mpr c4
   have c4b1:(a0 != 1)=false:=bne_eq_false_iff_eq.mpr c4
   clear c4
   (first|rw [c4b0]|(simp only [aZk,aZP];rw [c4b0])|skip)
   have H':=Aside0.mk H
   clear H
   go_wp2
   go_meet
   case rel=>exact ⟨_,((a0 == 1)),(by first|rfl|(simp;done)|(simp [*];done)|(simp only [aZk];done)|(simp [aZk,Int.tdiv_eq_ediv_of_nonneg];done)),H',⟨by first|omega|exact Nat.le_refl _⟩,⟨by repeat (first|(with_reducible first|exact HB.out|apply aZb|apply aZa|apply aZc)|exact HB.out)⟩⟩
  ·
   rw [if_neg c4] at H
   have c4b0:(a0 == 1)=false:=beq_eq_false_iff_ne.mpr c4
   have c4b1:(a0 != 1)=true:=bne_iff_ne.mpr c4
   (first|rw [c4b0]|(simp only [aZk,aZP];rw [c4b0])|skip)
   have H':=Aside0.mk H
   clear H
   go_wp2
   go_meet
   case rel=>exact ⟨_,((a0 == 2)),(by first|rfl|(simp;done)|(simp [*];done)|(simp only [aZk];done)|(simp [aZk,Int.tdiv_eq_ediv_of_nonneg];done)),H',⟨by first|omega|exact Nat.le_refl _⟩,⟨by repeat (first|(with_reducible first|exact HB.out|apply aZb|apply aZa|apply aZc)|exact HB.out)⟩⟩
 case rest =>
  clear HC3
  try clear p2
  try clear c3
  try clear c4
  try clear c4b0
  try clear c4b1
  obtain ⟨kq,x7_2,rfl,HA,HJ2,HB⟩:=hcut
  cases kq with
  | zero=>exact absurd HA.out (by simp [berthref21_Effect.j0])
  | succ kj2 =>
   have H:=HA.out
   clear HA
   simp only [berthref21_Effect.j0] at H
   by_cases c5:x7_2=true
   ·
    subst c5
    have H1:(some (([]:List Int),wrap64 (1+a1)))=some (r1,r2):=by rw [if_pos rfl] at H;exact H
    clear H
    have H:=H1
    clear H1
    simp only [Option.some.injEq,Prod.mk.injEq] at H
    obtain ⟨rfl,rfl⟩:=H
    go_wp2
    go_ret2
    exact ⟨_,by first|rfl|(simp [errW_none,errW_some] <;> rfl)|(simp [*,errW_none,errW_some] <;> rfl),by first|exact Kd.R_nil _ _ _ _ _|exact Kd.N_nil _ _ _ _ _|exact Kd.V_nil _ _ _ _ _|exact Kd.Q_nil _ _ _ _ _|exact Kd.S_nil _ _ _ _ _,by repeat (first|(with_reducible first|exact HB.out|apply aZb|apply aZa|apply aZc)|exact HB.out)⟩
   ·
    replace c5:=Bool.eq_false_iff.mpr c5
    subst c5
    have H1:(if a0=3 then (berthref21_Effect.j1 kj2 a1 a0 (a0 == 3)) else (if a0=7 then (berthref21_Effect.j1 kj2 a1 a0 (a0 == 7)) else (berthref21_Effect.j1 kj2 a1 a0 (a0 == 8))))=some (r1,r2):=by rw [if_neg (show ¬(false=true) by decide)] at H;exact H
    clear H
    have H:=H1
    clear H1
    have HC6:=Aside0.mk H
    clear H
    go_upto_if 12 with (fail)
    go_cut [12] (fun v12 wc=>∃ (kq:Nat) (x12_5:Bool),v12=.bool x12_5∧Aside0 (berthref21_Effect.j1 kq a1 a0 x12_5=some (r1,r2))∧Aside0 (kq≤kj2)∧Aside0 (Below w.heap.size w wc))
    case first =>
     have H:=HC6.out
     clear HC6
     by_cases c7:a0=3
     ·
      rw [if_pos c7] at H
      have c7b0:(a0 == 3)=true:=beq_iff_eq.mpr c7
      have c7b1:(a0 != 3)=false:=bne_eq_false_iff_eq.mpr c7
      clear c7
      (first|rw [c7b0]|(simp only [aZk,aZP];rw [c7b0])|skip)
      have H':=Aside0.mk H
      clear H
      go_wp2
      go_meet
      case rel=>exact ⟨_,((a0 == 3)),(by first|rfl|(simp;done)|(simp [*];done)|(simp only [aZk];done)|(simp [aZk,Int.tdiv_eq_ediv_of_nonneg];done)),H',⟨by have:=HJ2.out;first|omega|exact Nat.le_refl _⟩,⟨by repeat (first|(with_reducible first|exact HB.out|apply aZb|apply aZa|apply aZc)|exact HB.out)⟩⟩
     ·
      rw [if_neg c7] at H
      have c7b0:(a0 == 3)=false:=beq_eq_false_iff_ne.mpr c7
      have c7b1:(a0 != 3)=true:=bne_iff_ne.mpr c7
      (first|rw [c7b0]|(simp only [aZk,aZP];rw [c7b0])|skip)
      by_cases c8:a0=7
      ·
       rw [if_pos c8] at H
       have c8b0:(a0 == 7)=true:=beq_iff_eq.mpr c8
       have c8b1:(a0 != 7)=false:=bne_eq_false_iff_eq.mpr c8
       clear c8
       have H':=Aside0.mk H
       clear H
       go_wp2
       go_meet
       case rel=>exact ⟨_,((a0 == 7)),(by first|rfl|(simp;done)|(simp [*];done)|(simp only [aZk];done)|(simp [aZk,Int.tdiv_eq_ediv_of_nonneg];done)),H',⟨by have:=HJ2.out;first|omega|exact Nat.le_refl _⟩,⟨by repeat (first|(with_reducible first|exact HB.out|apply aZb|apply aZa|apply aZc)|exact HB.out)⟩⟩
      ·
       rw [if_neg c8] at H
       have c8b0:(a0 == 7)=false:=beq_eq_false_iff_ne.mpr c8
       have c8b1:(a0 != 7)=true:=bne_iff_ne.mpr c8
       have H':=Aside0.mk H
       clear H
       go_wp2
       go_meet
       case rel=>exact ⟨_,((a0 == 8)),(by first|rfl|(simp;done)|(simp [*];done)|(simp only [aZk];done)|(simp [aZk,Int.tdiv_eq_ediv_of_nonneg];done)),H',⟨by have:=HJ2.out;first|omega|exact Nat.le_refl _⟩,⟨by repeat (first|(with_reducible first|exact HB.out|apply aZb|apply aZa|apply aZc)|exact HB.out)⟩⟩
    case rest =>
     clear HC6
     try clear p2
     try clear c3
     try clear c4
     try clear c4b0
     try clear c4b1
     try clear c5
     try clear p6
     try clear c7
     try clear c7b0
     try clear c7b1
     try clear c8
     try clear c8b0
     try clear c8b1
     try clear p2
     obtain ⟨kq,x12_5,rfl,HA,HJ5,HB⟩:=hcut
     cases kq with
     | zero=>exact absurd HA.out (by simp [berthref21_Effect.j1])
     | succ kj5 =>
      have H:=HA.out
      clear HA
      simp only [berthref21_Effect.j1] at H
      by_cases c9:x12_5=true
      ·
       subst c9
       have H1:(some (([]:List Int),3))=some (r1,r2):=by rw [if_pos rfl] at H;exact H
       clear H
       have H:=H1
       clear H1
       simp only [Option.some.injEq,Prod.mk.injEq] at H
       obtain ⟨rfl,rfl⟩:=H
       go_wp2
       go_ret2
       exact ⟨_,by first|rfl|(simp [errW_none,errW_some] <;> rfl)|(simp [*,errW_none,errW_some] <;> rfl),by first|exact Kd.R_nil _ _ _ _ _|exact Kd.N_nil _ _ _ _ _|exact Kd.V_nil _ _ _ _ _|exact Kd.Q_nil _ _ _ _ _|exact Kd.S_nil _ _ _ _ _,by repeat (first|(with_reducible first|exact HB.out|apply aZb|apply aZa|apply aZc)|exact HB.out)⟩
      ·
       replace c9:=Bool.eq_false_iff.mpr c9
       subst c9
       have H1:(if a0=4 then (berthref21_Effect.j2 kj5 a1 a0 (a0 == 4)) else (berthref21_Effect.j2 kj5 a1 a0 (a0 == 9)))=some (r1,r2):=by rw [if_neg (show ¬(false=true) by decide)] at H;exact H
       clear H
       have H:=H1
       clear H1
       have HC10:=Aside0.mk H
       clear H
       go_upto_if 16 with (fail)
       go_cut [16] (fun v16 wc=>∃ (kq:Nat) (x16_9:Bool),v16=.bool x16_9∧Aside0 (berthref21_Effect.j2 kq a1 a0 x16_9=some (r1,r2))∧Aside0 (kq≤kj5)∧Aside0 (Below w.heap.size w wc))
       case first =>
        have H:=HC10.out
        clear HC10
        by_cases c11:a0=4
        ·
         rw [if_pos c11] at H
         have c11b0:(a0 == 4)=true:=beq_iff_eq.mpr c11
         have c11b1:(a0 != 4)=false:=bne_eq_false_iff_eq.mpr c11
         clear c11
         (first|rw [c11b0]|(simp only [aZk,aZP];rw [c11b0])|skip)
         have H':=Aside0.mk H
         clear H
         go_wp2
         go_meet
         case rel=>exact ⟨_,((a0 == 4)),(by first|rfl|(simp;done)|(simp [*];done)|(simp only [aZk];done)|(simp [aZk,Int.tdiv_eq_ediv_of_nonneg];done)),H',⟨by have:=HJ2.out;have:=HJ5.out;first|omega|exact Nat.le_refl _⟩,⟨by repeat (first|(with_reducible first|exact HB.out|apply aZb|apply aZa|apply aZc)|exact HB.out)⟩⟩
        ·
         rw [if_neg c11] at H
         have c11b0:(a0 == 4)=false:=beq_eq_false_iff_ne.mpr c11
         have c11b1:(a0 != 4)=true:=bne_iff_ne.mpr c11
         (first|rw [c11b0]|(simp only [aZk,aZP];rw [c11b0])|skip)
         have H':=Aside0.mk H
         clear H
         go_wp2
         go_meet
         case rel=>exact ⟨_,((a0 == 9)),(by first|rfl|(simp;done)|(simp [*];done)|(simp only [aZk];done)|(simp [aZk,Int.tdiv_eq_ediv_of_nonneg];done)),H',⟨by have:=HJ2.out;have:=HJ5.out;first|omega|exact Nat.le_refl _⟩,⟨by repeat (first|(with_reducible first|exact HB.out|apply aZb|apply aZa|apply aZc)|exact HB.out)⟩⟩
       case rest =>
        clear HC10
        try clear c1
        try clear p2
        try clear c3
        try clear c4
        try clear c4b0
        try clear c4b1
        try clear c5
        try clear p6
        try clear c7
        try clear c7b0
        try clear c7b1
        try clear c8
        try clear c8b0
        try clear c8b1
        try clear c9
        try clear c11
        try clear c11b0
        try clear c11b1
        try clear p2
        try clear p6
        obtain ⟨kq,x16_9,rfl,HA,HJ9,HB⟩:=hcut
        cases kq with
        | zero=>exact absurd HA.out (by simp [berthref21_Effect.j2])
        | succ kj9 =>
         have H:=HA.out
         clear HA
         simp only [berthref21_Effect.j2] at H
         by_cases c12:x16_9=true
         ·
          subst c12
          have H1:(some (([]:List Int),5))=some (r1,r2):=by rw [if_pos rfl] at H;exact H
          clear H
          have H:=H1
          clear H1
          simp only [Option.some.injEq,Prod.mk.injEq] at H
          obtain ⟨rfl,rfl⟩:=H
          go_wp2
          go_ret2
          exact ⟨_,by first|rfl|(simp [errW_none,errW_some] <;> rfl)|(simp [*,errW_none,errW_some] <;> rfl),by first|exact Kd.R_nil _ _ _ _ _|exact Kd.N_nil _ _ _ _ _|exact Kd.V_nil _ _ _ _ _|exact Kd.Q_nil _ _ _ _ _|exact Kd.S_nil _ _ _ _ _,by repeat (first|(with_reducible first|exact HB.out|apply aZb|apply aZa|apply aZc)|exact HB.out)⟩
         ·
          replace c12:=Bool.eq_false_iff.mpr c12
          subst c12
          have H1:(if a0=5 then (some (([]:List Int),4)) else (if a0=6 then (some (([]:List Int),6)) else (if a0=10 then (some ((([3]:List Int)),5)) else (if a0=11 then (some ((([3]:List Int)),4)) else (if a0=12 then (berthref21_Effect.j3 kj9 a1 a0 (a0 == 12)) else (if a0=13 then (berthref21_Effect.j3 kj9 a1 a0 (a0 == 13)) else (berthref21_Effect.j3 kj9 a1 a0 (a0 == 14))))))))=some (r1,r2):=by rw [if_neg (show ¬(false=true) by decide)] at H;exact H
          clear H
          have H:=H1
          clear H1
          by_cases c13:a0=5
          ·
           rw [if_pos c13] at H
           have c13b0:(a0 == 5)=true:=beq_iff_eq.mpr c13
           have c13b1:(a0 != 5)=false:=bne_eq_false_iff_eq.mpr c13
           clear c13
           simp only [Option.some.injEq,Prod.mk.injEq] at H
           obtain ⟨rfl,rfl⟩:=H
           go_wp2
           go_ret2
           exact ⟨_,by first|rfl|(simp [errW_none,errW_some] <;> rfl)|(simp [*,errW_none,errW_some] <;> rfl),by first|exact Kd.R_nil _ _ _ _ _|exact Kd.N_nil _ _ _ _ _|exact Kd.V_nil _ _ _ _ _|exact Kd.Q_nil _ _ _ _ _|exact Kd.S_nil _ _ _ _ _,by repeat (first|(with_reducible first|exact HB.out|apply aZb|apply aZa|apply aZc)|exact HB.out)⟩
          ·
           rw [if_neg c13] at H
           have c13b0:(a0 == 5)=false:=beq_eq_false_iff_ne.mpr c13
           have c13b1:(a0 != 5)=true:=bne_iff_ne.mpr c13
           by_cases c14:a0=6
           ·
            rw [if_pos c14] at H
            have c14b0:(a0 == 6)=true:=beq_iff_eq.mpr c14
            have c14b1:(a0 != 6)=false:=bne_eq_false_iff_eq.mpr c14
            clear c14
            simp only [Option.some.injEq,Prod.mk.injEq] at H
            obtain ⟨rfl,rfl⟩:=H
            go_wp2
            go_ret2
            exact ⟨_,by first|rfl|(simp [errW_none,errW_some] <;> rfl)|(simp [*,errW_none,errW_some] <;> rfl),by first|exact Kd.R_nil _ _ _ _ _|exact Kd.N_nil _ _ _ _ _|exact Kd.V_nil _ _ _ _ _|exact Kd.Q_nil _ _ _ _ _|exact Kd.S_nil _ _ _ _ _,by repeat (first|(with_reducible first|exact HB.out|apply aZb|apply aZa|apply aZc)|exact HB.out)⟩
           ·
            rw [if_neg c14] at H
            have c14b0:(a0 == 6)=false:=beq_eq_false_iff_ne.mpr c14
            have c14b1:(a0 != 6)=true:=bne_iff_ne.mpr c14
            by_cases c15:a0=10
            ·
             rw [if_pos c15] at H
             have c15b0:(a0 == 10)=true:=beq_iff_eq.mpr c15
             have c15b1:(a0 != 10)=false:=bne_eq_false_iff_eq.mpr c15
             clear c15
             obtain ⟨y185,hy185⟩:∃ y_:List Int,y_=(([3]:List Int)):=⟨_,rfl⟩
             replace H:(some (y185,5))=some (r1,r2):=by first|(rw [hy185];with_reducible exact H)|(have H2_:=(Option.bind_some _ _).symm.trans H;rw [hy185];with_reducible exact H2_)|(have H2_:=(Option.bind_some _ _).symm.trans H;with_reducible exact H2_)|with_reducible exact H|(rw [hy185];exact H)|exact H
             have Ny185:=Aside0.mk hy185
             clear hy185
             simp only [Option.some.injEq,Prod.mk.injEq] at H
             obtain ⟨rfl,rfl⟩:=H
             go_wp2_with (first|((with_reducible refine aZr (N:=25) rfl ?_);refine Kd.R_lit (Kd.int .i64) _ 3 ?hg (N:=25) ?hd (xs:=([3]:List Int)) (inner:=[.int .i64 3]) (ok:=fun _=>True) (okp:=fun _=>True) ?hr ?hp (fun _ hk=>hk) trivial (Below.refl _ _) (Nat.le_refl _) (by simp) ?_;(case hd=>rfl);(case hg=>rfl);(case hr=>first|(go_simp;done)|(go_simp;rfl));(case hp=>exact (Reps.one (show Kd.M (Kd.int .i64) _ _ _ 3 [.int .i64 3] from rfl) (Reps.none _ _)));intro v186 w16 ho17 hb hg_ hnew_;clear hg_ hnew_;(first|rw [←Ny185.out] at ho17|(simp only [Int.reduceToNat] at ho17;rw [←Ny185.out] at ho17));have n0_:=Aside0.mk (Kd.R_lower ho17 (aZl (by repeat (first|(with_reducible first|exact HB.out|apply aZb|apply aZa|apply aZc)|exact HB.out))));have n1_:=Aside0.mk (aZo (by repeat (first|(with_reducible first|exact HB.out|apply aZb|apply aZa|apply aZc)|exact HB.out)) hb);clear HB;have HO187:=n0_;have HB:=n1_;clear n0_ n1_;clear hb ho17))
             go_ret2
             exact ⟨_,by first|rfl|(simp [errW_none,errW_some] <;> rfl)|(simp [*,errW_none,errW_some] <;> rfl),by (with_reducible repeat (first|apply Kd.R_alloc|apply Kd.R_drewN|apply Kd.R_drew));exact HO187.out,by repeat (first|(with_reducible first|exact HB.out|apply aZb|apply aZa|apply aZc)|exact HB.out)⟩
            ·
             rw [if_neg c15] at H
             have c15b0:(a0 == 10)=false:=beq_eq_false_iff_ne.mpr c15
             have c15b1:(a0 != 10)=true:=bne_iff_ne.mpr c15
             by_cases c18:a0=11
             ·
              rw [if_pos c18] at H
              have c18b0:(a0 == 11)=true:=beq_iff_eq.mpr c18
              have c18b1:(a0 != 11)=false:=bne_eq_false_iff_eq.mpr c18
              clear c18
              obtain ⟨y188,hy188⟩:∃ y_:List Int,y_=(([3]:List Int)):=⟨_,rfl⟩
              replace H:(some (y188,4))=some (r1,r2):=by first|(rw [hy188];with_reducible exact H)|(have H2_:=(Option.bind_some _ _).symm.trans H;rw [hy188];with_reducible exact H2_)|(have H2_:=(Option.bind_some _ _).symm.trans H;with_reducible exact H2_)|with_reducible exact H|(rw [hy188];exact H)|exact H
              have Ny188:=Aside0.mk hy188
              clear hy188
              simp only [Option.some.injEq,Prod.mk.injEq] at H
              obtain ⟨rfl,rfl⟩:=H
              go_wp2_with (first|((with_reducible refine aZr (N:=28) rfl ?_);refine Kd.R_lit (Kd.int .i64) _ 3 ?hg (N:=28) ?hd (xs:=([3]:List Int)) (inner:=[.int .i64 3]) (ok:=fun _=>True) (okp:=fun _=>True) ?hr ?hp (fun _ hk=>hk) trivial (Below.refl _ _) (Nat.le_refl _) (by simp) ?_;(case hd=>rfl);(case hg=>rfl);(case hr=>first|(go_simp;done)|(go_simp;rfl));(case hp=>exact (Reps.one (show Kd.M (Kd.int .i64) _ _ _ 3 [.int .i64 3] from rfl) (Reps.none _ _)));intro v189 w19 ho20 hb hg_ hnew_;clear hg_ hnew_;(first|rw [←Ny188.out] at ho20|(simp only [Int.reduceToNat] at ho20;rw [←Ny188.out] at ho20));have n0_:=Aside0.mk (Kd.R_lower ho20 (aZl (by repeat (first|(with_reducible first|exact HB.out|apply aZb|apply aZa|apply aZc)|exact HB.out))));have n1_:=Aside0.mk (aZo (by repeat (first|(with_reducible first|exact HB.out|apply aZb|apply aZa|apply aZc)|exact HB.out)) hb);clear HB;have HO190:=n0_;have HB:=n1_;clear n0_ n1_;clear hb ho20))
              go_ret2
              exact ⟨_,by first|rfl|(simp [errW_none,errW_some] <;> rfl)|(simp [*,errW_none,errW_some] <;> rfl),by (with_reducible repeat (first|apply Kd.R_alloc|apply Kd.R_drewN|apply Kd.R_drew));exact HO190.out,by repeat (first|(with_reducible first|exact HB.out|apply aZb|apply aZa|apply aZc)|exact HB.out)⟩
             ·
              rw [if_neg c18] at H
              have c18b0:(a0 == 11)=false:=beq_eq_false_iff_ne.mpr c18
              have c18b1:(a0 != 11)=true:=bne_iff_ne.mpr c18
              have HC21:=Aside0.mk H
              clear H
              go_upto_if 29 with (fail)
              go_cut [29] (fun v29 wc=>∃ (kq:Nat) (x29_20:Bool),v29=.bool x29_20∧Aside0 (berthref21_Effect.j3 kq a1 a0 x29_20=some (r1,r2))∧Aside0 (kq≤kj9)∧Aside0 (Below w.heap.size w wc))
              case first =>
               have H:=HC21.out
               clear HC21
               by_cases c22:a0=12
               ·
                rw [if_pos c22] at H
                have c22b0:(a0 == 12)=true:=beq_iff_eq.mpr c22
                have c22b1:(a0 != 12)=false:=bne_eq_false_iff_eq.mpr c22
                clear c22
                (first|rw [c22b0]|(simp only [aZk,aZP];rw [c22b0])|skip)
                have H':=Aside0.mk H
                clear H
                go_wp2
                go_meet
                case rel=>exact ⟨_,((a0 == 12)),(by first|rfl|(simp;done)|(simp [*];done)|(simp only [aZk];done)|(simp [aZk,Int.tdiv_eq_ediv_of_nonneg];done)),H',⟨by have:=HJ2.out;have:=HJ5.out;have:=HJ9.out;first|omega|exact Nat.le_refl _⟩,⟨by repeat (first|(with_reducible first|exact HB.out|apply aZb|apply aZa|apply aZc)|exact HB.out)⟩⟩
               ·
                rw [if_neg c22] at H
                have c22b0:(a0 == 12)=false:=beq_eq_false_iff_ne.mpr c22
                have c22b1:(a0 != 12)=true:=bne_iff_ne.mpr c22
                (first|rw [c22b0]|(simp only [aZk,aZP];rw [c22b0])|skip)
                by_cases c23:a0=13
                ·
                 rw [if_pos c23] at H
                 have c23b0:(a0 == 13)=true:=beq_iff_eq.mpr c23
                 have c23b1:(a0 != 13)=false:=bne_eq_false_iff_eq.mpr c23
                 clear c23
                 have H':=Aside0.mk H
                 clear H
                 go_wp2
                 go_meet
                 case rel=>exact ⟨_,((a0 == 13)),(by first|rfl|(simp;done)|(simp [*];done)|(simp only [aZk];done)|(simp [aZk,Int.tdiv_eq_ediv_of_nonneg];done)),H',⟨by have:=HJ2.out;have:=HJ5.out;have:=HJ9.out;first|omega|exact Nat.le_refl _⟩,⟨by repeat (first|(with_reducible first|exact HB.out|apply aZb|apply aZa|apply aZc)|exact HB.out)⟩⟩
                ·
                 rw [if_neg c23] at H
                 have c23b0:(a0 == 13)=false:=beq_eq_false_iff_ne.mpr c23
                 have c23b1:(a0 != 13)=true:=bne_iff_ne.mpr c23
                 have H':=Aside0.mk H
                 clear H
                 go_wp2
                 go_meet
                 case rel=>exact ⟨_,((a0 == 14)),(by first|rfl|(simp;done)|(simp [*];done)|(simp only [aZk];done)|(simp [aZk,Int.tdiv_eq_ediv_of_nonneg];done)),H',⟨by have:=HJ2.out;have:=HJ5.out;have:=HJ9.out;first|omega|exact Nat.le_refl _⟩,⟨by repeat (first|(with_reducible first|exact HB.out|apply aZb|apply aZa|apply aZc)|exact HB.out)⟩⟩
              case rest =>
               clear HC21
               try clear c1
               try clear c2
               try clear p2
               try clear c3
               try clear c4
               try clear c4b0
               try clear c4b1
               try clear c5
               try clear p6
               try clear c7
               try clear c7b0
               try clear c7b1
               try clear c8
               try clear c8b0
               try clear c8b1
               try clear c9
               try clear c11
               try clear c11b0
               try clear c11b1
               try clear c12
               try clear c13
               try clear c13b0
               try clear c13b1
               try clear c14
               try clear c14b0
               try clear c14b1
               try clear c15
               try clear c15b0
               try clear c15b1
               try clear c18
               try clear c18b0
               try clear c18b1
               try clear c22
               try clear c22b0
               try clear c22b1
               try clear c23
               try clear c23b0
               try clear c23b1
               try clear p2
               try clear p6
               obtain ⟨kq,x29_20,rfl,HA,HJ20,HB⟩:=hcut
               cases kq with
               | zero=>exact absurd HA.out (by simp [berthref21_Effect.j3])
               | succ kj20 =>
                have H:=HA.out
                clear HA
                simp only [berthref21_Effect.j3] at H
                by_cases c24:x29_20=true
                ·
                 subst c24
                 have H1:(some ((([5]:List Int)),wrap64 (1+a1)))=some (r1,r2):=by rw [if_pos rfl] at H;exact H
                 clear H
                 have H:=H1
                 clear H1
                 obtain ⟨y191,hy191⟩:∃ y_:List Int,y_=(([5]:List Int)):=⟨_,rfl⟩
                 replace H:(some (y191,wrap64 (1+a1)))=some (r1,r2):=by first|(rw [hy191];with_reducible exact H)|(have H2_:=(Option.bind_some _ _).symm.trans H;rw [hy191];with_reducible exact H2_)|(have H2_:=(Option.bind_some _ _).symm.trans H;with_reducible exact H2_)|with_reducible exact H|(rw [hy191];exact H)|exact H
                 have Ny191:=Aside0.mk hy191
                 clear hy191
                 simp only [Option.some.injEq,Prod.mk.injEq] at H
                 obtain ⟨rfl,rfl⟩:=H
                 go_wp2_with (first|((with_reducible refine aZr (N:=33) rfl ?_);refine Kd.R_lit (Kd.int .i64) _ 3 ?hg (N:=33) ?hd (xs:=([5]:List Int)) (inner:=[.int .i64 5]) (ok:=fun _=>True) (okp:=fun _=>True) ?hr ?hp (fun _ hk=>hk) trivial (Below.refl _ _) (Nat.le_refl _) (by simp) ?_;(case hd=>rfl);(case hg=>rfl);(case hr=>first|(go_simp;done)|(go_simp;rfl));(case hp=>exact (Reps.one (show Kd.M (Kd.int .i64) _ _ _ 5 [.int .i64 5] from rfl) (Reps.none _ _)));intro v192 w25 ho26 hb hg_ hnew_;clear hg_ hnew_;(first|rw [←Ny191.out] at ho26|(simp only [Int.reduceToNat] at ho26;rw [←Ny191.out] at ho26));have n0_:=Aside0.mk (Kd.R_lower ho26 (aZl (by repeat (first|(with_reducible first|exact HB.out|apply aZb|apply aZa|apply aZc)|exact HB.out))));have n1_:=Aside0.mk (aZo (by repeat (first|(with_reducible first|exact HB.out|apply aZb|apply aZa|apply aZc)|exact HB.out)) hb);clear HB;have HO193:=n0_;have HB:=n1_;clear n0_ n1_;clear hb ho26))
                 go_ret2
                 exact ⟨_,by first|rfl|(simp [errW_none,errW_some] <;> rfl)|(simp [*,errW_none,errW_some] <;> rfl),by (with_reducible repeat (first|apply Kd.R_alloc|apply Kd.R_drewN|apply Kd.R_drew));exact HO193.out,by repeat (first|(with_reducible first|exact HB.out|apply aZb|apply aZa|apply aZc)|exact HB.out)⟩
                ·
                 replace c24:=Bool.eq_false_iff.mpr c24
                 subst c24
                 have H1:(if a0=15 then (some ((([5]:List Int)),1)) else (if a0=16 then (some ((([4]:List Int)),wrap64 (1+a1))) else (if a0=17 then (some ((([6]:List Int)),wrap64 (1+a1))) else (if a0=18 then (some ((([4]:List Int)),1)) else (if a0=19 then (some ((([6]:List Int)),1)) else (if a0=20 then (some ((([2,4]:List Int)),1)) else (if a0=21 then (some ((([2,6]:List Int)),1)) else (if a0=22 then (some ((([2]:List Int)),1)) else (if a0=23 then (some (([]:List Int),1)) else (if a0=24 then (some ((([3,5]:List Int)),wrap64 (1+a1))) else (if a0=25 then (some ((([4,4]:List Int)),wrap64 (1+a1))) else (if a0=26 then (some ((([4,6]:List Int)),wrap64 (1+a1))) else (if a0=36 then (some ((([1]:List Int)),0)) else (some (([]:List Int),0)))))))))))))))=some (r1,r2):=by rw [if_neg (show ¬(false=true) by decide)] at H;exact H
                 clear H
                 have H:=H1
                 clear H1
                 by_cases c27:a0=15
                 ·
                  rw [if_pos c27] at H
                  have c27b0:(a0 == 15)=true:=beq_iff_eq.mpr c27
                  have c27b1:(a0 != 15)=false:=bne_eq_false_iff_eq.mpr c27
                  clear c27
                  obtain ⟨y194,hy194⟩:∃ y_:List Int,y_=(([5]:List Int)):=⟨_,rfl⟩
                  replace H:(some (y194,1))=some (r1,r2):=by first|(rw [hy194];with_reducible exact H)|(have H2_:=(Option.bind_some _ _).symm.trans H;rw [hy194];with_reducible exact H2_)|(have H2_:=(Option.bind_some _ _).symm.trans H;with_reducible exact H2_)|with_reducible exact H|(rw [hy194];exact H)|exact H
                  have Ny194:=Aside0.mk hy194
                  clear hy194
                  simp only [Option.some.injEq,Prod.mk.injEq] at H
                  obtain ⟨rfl,rfl⟩:=H
                  go_wp2_with (first|((with_reducible refine aZr (N:=38) rfl ?_);refine Kd.R_lit (Kd.int .i64) _ 3 ?hg (N:=38) ?hd (xs:=([5]:List Int)) (inner:=[.int .i64 5]) (ok:=fun _=>True) (okp:=fun _=>True) ?hr ?hp (fun _ hk=>hk) trivial (Below.refl _ _) (Nat.le_refl _) (by simp) ?_;(case hd=>rfl);(case hg=>rfl);(case hr=>first|(go_simp;done)|(go_simp;rfl));(case hp=>exact (Reps.one (show Kd.M (Kd.int .i64) _ _ _ 5 [.int .i64 5] from rfl) (Reps.none _ _)));intro v195 w28 ho29 hb hg_ hnew_;clear hg_ hnew_;(first|rw [←Ny194.out] at ho29|(simp only [Int.reduceToNat] at ho29;rw [←Ny194.out] at ho29));have n0_:=Aside0.mk (Kd.R_lower ho29 (aZl (by repeat (first|(with_reducible first|exact HB.out|apply aZb|apply aZa|apply aZc)|exact HB.out))));have n1_:=Aside0.mk (aZo (by repeat (first|(with_reducible first|exact HB.out|apply aZb|apply aZa|apply aZc)|exact HB.out)) hb);clear HB;have HO196:=n0_;have HB:=n1_;clear n0_ n1_;clear hb ho29))
                  go_ret2
                  exact ⟨_,by first|rfl|(simp [errW_none,errW_some] <;> rfl)|(simp [*,errW_none,errW_some] <;> rfl),by (with_reducible repeat (first|apply Kd.R_alloc|apply Kd.R_drewN|apply Kd.R_drew));exact HO196.out,by repeat (first|(with_reducible first|exact HB.out|apply aZb|apply aZa|apply aZc)|exact HB.out)⟩
                 ·
                  rw [if_neg c27] at H
                  have c27b0:(a0 == 15)=false:=beq_eq_false_iff_ne.mpr c27
                  have c27b1:(a0 != 15)=true:=bne_iff_ne.mpr c27
                  by_cases c30:a0=16
                  ·
                   rw [if_pos c30] at H
                   have c30b0:(a0 == 16)=true:=beq_iff_eq.mpr c30
                   have c30b1:(a0 != 16)=false:=bne_eq_false_iff_eq.mpr c30
                   clear c30
                   obtain ⟨y197,hy197⟩:∃ y_:List Int,y_=(([4]:List Int)):=⟨_,rfl⟩
                   replace H:(some (y197,wrap64 (1+a1)))=some (r1,r2):=by first|(rw [hy197];with_reducible exact H)|(have H2_:=(Option.bind_some _ _).symm.trans H;rw [hy197];with_reducible exact H2_)|(have H2_:=(Option.bind_some _ _).symm.trans H;with_reducible exact H2_)|with_reducible exact H|(rw [hy197];exact H)|exact H
                   have Ny197:=Aside0.mk hy197
                   clear hy197
                   simp only [Option.some.injEq,Prod.mk.injEq] at H
                   obtain ⟨rfl,rfl⟩:=H
                   go_wp2_with (first|((with_reducible refine aZr (N:=41) rfl ?_);refine Kd.R_lit (Kd.int .i64) _ 3 ?hg (N:=41) ?hd (xs:=([4]:List Int)) (inner:=[.int .i64 4]) (ok:=fun _=>True) (okp:=fun _=>True) ?hr ?hp (fun _ hk=>hk) trivial (Below.refl _ _) (Nat.le_refl _) (by simp) ?_;(case hd=>rfl);(case hg=>rfl);(case hr=>first|(go_simp;done)|(go_simp;rfl));(case hp=>exact (Reps.one (show Kd.M (Kd.int .i64) _ _ _ 4 [.int .i64 4] from rfl) (Reps.none _ _)));intro v198 w31 ho32 hb hg_ hnew_;clear hg_ hnew_;(first|rw [←Ny197.out] at ho32|(simp only [Int.reduceToNat] at ho32;rw [←Ny197.out] at ho32));have n0_:=Aside0.mk (Kd.R_lower ho32 (aZl (by repeat (first|(with_reducible first|exact HB.out|apply aZb|apply aZa|apply aZc)|exact HB.out))));have n1_:=Aside0.mk (aZo (by repeat (first|(with_reducible first|exact HB.out|apply aZb|apply aZa|apply aZc)|exact HB.out)) hb);clear HB;have HO199:=n0_;have HB:=n1_;clear n0_ n1_;clear hb ho32))
                   go_ret2
                   exact ⟨_,by first|rfl|(simp [errW_none,errW_some] <;> rfl)|(simp [*,errW_none,errW_some] <;> rfl),by (with_reducible repeat (first|apply Kd.R_alloc|apply Kd.R_drewN|apply Kd.R_drew));exact HO199.out,by repeat (first|(with_reducible first|exact HB.out|apply aZb|apply aZa|apply aZc)|exact HB.out)⟩
                  ·
                   rw [if_neg c30] at H
                   have c30b0:(a0 == 16)=false:=beq_eq_false_iff_ne.mpr c30
                   have c30b1:(a0 != 16)=true:=bne_iff_ne.mpr c30
                   by_cases c33:a0=17
                   ·
                    rw [if_pos c33] at H
                    have c33b0:(a0 == 17)=true:=beq_iff_eq.mpr c33
                    have c33b1:(a0 != 17)=false:=bne_eq_false_iff_eq.mpr c33
                    clear c33
                    obtain ⟨y200,hy200⟩:∃ y_:List Int,y_=(([6]:List Int)):=⟨_,rfl⟩
                    replace H:(some (y200,wrap64 (1+a1)))=some (r1,r2):=by first|(rw [hy200];with_reducible exact H)|(have H2_:=(Option.bind_some _ _).symm.trans H;rw [hy200];with_reducible exact H2_)|(have H2_:=(Option.bind_some _ _).symm.trans H;with_reducible exact H2_)|with_reducible exact H|(rw [hy200];exact H)|exact H
                    have Ny200:=Aside0.mk hy200
                    clear hy200
                    simp only [Option.some.injEq,Prod.mk.injEq] at H
                    obtain ⟨rfl,rfl⟩:=H
                    go_wp2_with (first|((with_reducible refine aZr (N:=46) rfl ?_);refine Kd.R_lit (Kd.int .i64) _ 3 ?hg (N:=46) ?hd (xs:=([6]:List Int)) (inner:=[.int .i64 6]) (ok:=fun _=>True) (okp:=fun _=>True) ?hr ?hp (fun _ hk=>hk) trivial (Below.refl _ _) (Nat.le_refl _) (by simp) ?_;(case hd=>rfl);(case hg=>rfl);(case hr=>first|(go_simp;done)|(go_simp;rfl));(case hp=>exact (Reps.one (show Kd.M (Kd.int .i64) _ _ _ 6 [.int .i64 6] from rfl) (Reps.none _ _)));intro v201 w34 ho35 hb hg_ hnew_;clear hg_ hnew_;(first|rw [←Ny200.out] at ho35|(simp only [Int.reduceToNat] at ho35;rw [←Ny200.out] at ho35));have n0_:=Aside0.mk (Kd.R_lower ho35 (aZl (by repeat (first|(with_reducible first|exact HB.out|apply aZb|apply aZa|apply aZc)|exact HB.out))));have n1_:=Aside0.mk (aZo (by repeat (first|(with_reducible first|exact HB.out|apply aZb|apply aZa|apply aZc)|exact HB.out)) hb);clear HB;have HO202:=n0_;have HB:=n1_;clear n0_ n1_;clear hb ho35))
                    go_ret2
                    exact ⟨_,by first|rfl|(simp [errW_none,errW_some] <;> rfl)|(simp [*,errW_none,errW_some] <;> rfl),by (with_reducible repeat (first|apply Kd.R_alloc|apply Kd.R_drewN|apply Kd.R_drew));exact HO202.out,by repeat (first|(with_reducible first|exact HB.out|apply aZb|apply aZa|apply aZc)|exact HB.out)⟩
                   ·
                    rw [if_neg c33] at H
                    have c33b0:(a0 == 17)=false:=beq_eq_false_iff_ne.mpr c33
                    have c33b1:(a0 != 17)=true:=bne_iff_ne.mpr c33
                    by_cases c36:a0=18
                    ·
                     rw [if_pos c36] at H
                     have c36b0:(a0 == 18)=true:=beq_iff_eq.mpr c36
                     have c36b1:(a0 != 18)=false:=bne_eq_false_iff_eq.mpr c36
                     clear c36
                     obtain ⟨y203,hy203⟩:∃ y_:List Int,y_=(([4]:List Int)):=⟨_,rfl⟩
                     replace H:(some (y203,1))=some (r1,r2):=by first|(rw [hy203];with_reducible exact H)|(have H2_:=(Option.bind_some _ _).symm.trans H;rw [hy203];with_reducible exact H2_)|(have H2_:=(Option.bind_some _ _).symm.trans H;with_reducible exact H2_)|with_reducible exact H|(rw [hy203];exact H)|exact H
                     have Ny203:=Aside0.mk hy203
                     clear hy203
                     simp only [Option.some.injEq,Prod.mk.injEq] at H
                     obtain ⟨rfl,rfl⟩:=H
                     go_wp2_with (first|((with_reducible refine aZr (N:=51) rfl ?_);refine Kd.R_lit (Kd.int .i64) _ 3 ?hg (N:=51) ?hd (xs:=([4]:List Int)) (inner:=[.int .i64 4]) (ok:=fun _=>True) (okp:=fun _=>True) ?hr ?hp (fun _ hk=>hk) trivial (Below.refl _ _) (Nat.le_refl _) (by simp) ?_;(case hd=>rfl);(case hg=>rfl);(case hr=>first|(go_simp;done)|(go_simp;rfl));(case hp=>exact (Reps.one (show Kd.M (Kd.int .i64) _ _ _ 4 [.int .i64 4] from rfl) (Reps.none _ _)));intro v204 w37 ho38 hb hg_ hnew_;clear hg_ hnew_;(first|rw [←Ny203.out] at ho38|(simp only [Int.reduceToNat] at ho38;rw [←Ny203.out] at ho38));have n0_:=Aside0.mk (Kd.R_lower ho38 (aZl (by repeat (first|(with_reducible first|exact HB.out|apply aZb|apply aZa|apply aZc)|exact HB.out))));have n1_:=Aside0.mk (aZo (by repeat (first|(with_reducible first|exact HB.out|apply aZb|apply aZa|apply aZc)|exact HB.out)) hb);clear HB;have HO205:=n0_;have HB:=n1_;clear n0_ n1_;clear hb ho38))
                     go_ret2
                     exact ⟨_,by first|rfl|(simp [errW_none,errW_some] <;> rfl)|(simp [*,errW_none,errW_some] <;> rfl),by (with_reducible repeat (first|apply Kd.R_alloc|apply Kd.R_drewN|apply Kd.R_drew));exact HO205.out,by repeat (first|(with_reducible first|exact HB.out|apply aZb|apply aZa|apply aZc)|exact HB.out)⟩
                    ·
                     rw [if_neg c36] at H
                     have c36b0:(a0 == 18)=false:=beq_eq_false_iff_ne.mpr c36
                     have c36b1:(a0 != 18)=true:=bne_iff_ne.mpr c36
                     by_cases c39:a0=19
                     ·
                      rw [if_pos c39] at H
                      have c39b0:(a0 == 19)=true:=beq_iff_eq.mpr c39
                      have c39b1:(a0 != 19)=false:=bne_eq_false_iff_eq.mpr c39
                      clear c39
                      obtain ⟨y206,hy206⟩:∃ y_:List Int,y_=(([6]:List Int)):=⟨_,rfl⟩
                      replace H:(some (y206,1))=some (r1,r2):=by first|(rw [hy206];with_reducible exact H)|(have H2_:=(Option.bind_some _ _).symm.trans H;rw [hy206];with_reducible exact H2_)|(have H2_:=(Option.bind_some _ _).symm.trans H;with_reducible exact H2_)|with_reducible exact H|(rw [hy206];exact H)|exact H
                      have Ny206:=Aside0.mk hy206
                      clear hy206
                      simp only [Option.some.injEq,Prod.mk.injEq] at H
                      obtain ⟨rfl,rfl⟩:=H
                      go_wp2_with (first|((with_reducible refine aZr (N:=54) rfl ?_);refine Kd.R_lit (Kd.int .i64) _ 3 ?hg (N:=54) ?hd (xs:=([6]:List Int)) (inner:=[.int .i64 6]) (ok:=fun _=>True) (okp:=fun _=>True) ?hr ?hp (fun _ hk=>hk) trivial (Below.refl _ _) (Nat.le_refl _) (by simp) ?_;(case hd=>rfl);(case hg=>rfl);(case hr=>first|(go_simp;done)|(go_simp;rfl));(case hp=>exact (Reps.one (show Kd.M (Kd.int .i64) _ _ _ 6 [.int .i64 6] from rfl) (Reps.none _ _)));intro v207 w40 ho41 hb hg_ hnew_;clear hg_ hnew_;(first|rw [←Ny206.out] at ho41|(simp only [Int.reduceToNat] at ho41;rw [←Ny206.out] at ho41));have n0_:=Aside0.mk (Kd.R_lower ho41 (aZl (by repeat (first|(with_reducible first|exact HB.out|apply aZb|apply aZa|apply aZc)|exact HB.out))));have n1_:=Aside0.mk (aZo (by repeat (first|(with_reducible first|exact HB.out|apply aZb|apply aZa|apply aZc)|exact HB.out)) hb);clear HB;have HO208:=n0_;have HB:=n1_;clear n0_ n1_;clear hb ho41))
                      go_ret2
                      exact ⟨_,by first|rfl|(simp [errW_none,errW_some] <;> rfl)|(simp [*,errW_none,errW_some] <;> rfl),by (with_reducible repeat (first|apply Kd.R_alloc|apply Kd.R_drewN|apply Kd.R_drew));exact HO208.out,by repeat (first|(with_reducible first|exact HB.out|apply aZb|apply aZa|apply aZc)|exact HB.out)⟩
                     ·
                      rw [if_neg c39] at H
                      have c39b0:(a0 == 19)=false:=beq_eq_false_iff_ne.mpr c39
                      have c39b1:(a0 != 19)=true:=bne_iff_ne.mpr c39
                      by_cases c42:a0=20
                      ·
                       rw [if_pos c42] at H
                       have c42b0:(a0 == 20)=true:=beq_iff_eq.mpr c42
                       have c42b1:(a0 != 20)=false:=bne_eq_false_iff_eq.mpr c42
                       clear c42
                       obtain ⟨y209,hy209⟩:∃ y_:List Int,y_=(([2,4]:List Int)):=⟨_,rfl⟩
                       replace H:(some (y209,1))=some (r1,r2):=by first|(rw [hy209];with_reducible exact H)|(have H2_:=(Option.bind_some _ _).symm.trans H;rw [hy209];with_reducible exact H2_)|(have H2_:=(Option.bind_some _ _).symm.trans H;with_reducible exact H2_)|with_reducible exact H|(rw [hy209];exact H)|exact H
                       have Ny209:=Aside0.mk hy209
                       clear hy209
                       simp only [Option.some.injEq,Prod.mk.injEq] at H
                       obtain ⟨rfl,rfl⟩:=H
                       go_wp2_with (first|((with_reducible refine aZr (N:=57) rfl ?_);refine Kd.R_lit (Kd.int .i64) _ 3 ?hg (N:=57) ?hd (xs:=([2,4]:List Int)) (inner:=[.int .i64 2,.int .i64 4]) (ok:=fun _=>True) (okp:=fun _=>True) ?hr ?hp (fun _ hk=>hk) trivial (Below.refl _ _) (Nat.le_refl _) (by simp) ?_;(case hd=>rfl);(case hg=>rfl);(case hr=>first|(go_simp;done)|(go_simp;rfl));(case hp=>exact (Reps.one (show Kd.M (Kd.int .i64) _ _ _ 2 [.int .i64 2] from rfl) (Reps.one (show Kd.M (Kd.int .i64) _ _ _ 4 [.int .i64 4] from rfl) (Reps.none _ _))));intro v210 w43 ho44 hb hg_ hnew_;clear hg_ hnew_;(first|rw [←Ny209.out] at ho44|(simp only [Int.reduceToNat] at ho44;rw [←Ny209.out] at ho44));have n0_:=Aside0.mk (Kd.R_lower ho44 (aZl (by repeat (first|(with_reducible first|exact HB.out|apply aZb|apply aZa|apply aZc)|exact HB.out))));have n1_:=Aside0.mk (aZo (by repeat (first|(with_reducible first|exact HB.out|apply aZb|apply aZa|apply aZc)|exact HB.out)) hb);clear HB;have HO211:=n0_;have HB:=n1_;clear n0_ n1_;clear hb ho44))
                       go_ret2
                       exact ⟨_,by first|rfl|(simp [errW_none,errW_some] <;> rfl)|(simp [*,errW_none,errW_some] <;> rfl),by (with_reducible repeat (first|apply Kd.R_alloc|apply Kd.R_drewN|apply Kd.R_drew));exact HO211.out,by repeat (first|(with_reducible first|exact HB.out|apply aZb|apply aZa|apply aZc)|exact HB.out)⟩
                      ·
                       rw [if_neg c42] at H
                       have c42b0:(a0 == 20)=false:=beq_eq_false_iff_ne.mpr c42
                       have c42b1:(a0 != 20)=true:=bne_iff_ne.mpr c42
                       by_cases c45:a0=21
                       ·
                        rw [if_pos c45] at H
                        have c45b0:(a0 == 21)=true:=beq_iff_eq.mpr c45
                        have c45b1:(a0 != 21)=false:=bne_eq_false_iff_eq.mpr c45
                        clear c45
                        obtain ⟨y212,hy212⟩:∃ y_:List Int,y_=(([2,6]:List Int)):=⟨_,rfl⟩
                        replace H:(some (y212,1))=some (r1,r2):=by first|(rw [hy212];with_reducible exact H)|(have H2_:=(Option.bind_some _ _).symm.trans H;rw [hy212];with_reducible exact H2_)|(have H2_:=(Option.bind_some _ _).symm.trans H;with_reducible exact H2_)|with_reducible exact H|(rw [hy212];exact H)|exact H
                        have Ny212:=Aside0.mk hy212
                        clear hy212
                        simp only [Option.some.injEq,Prod.mk.injEq] at H
                        obtain ⟨rfl,rfl⟩:=H
                        go_wp2_with (first|((with_reducible refine aZr (N:=60) rfl ?_);refine Kd.R_lit (Kd.int .i64) _ 3 ?hg (N:=60) ?hd (xs:=([2,6]:List Int)) (inner:=[.int .i64 2,.int .i64 6]) (ok:=fun _=>True) (okp:=fun _=>True) ?hr ?hp (fun _ hk=>hk) trivial (Below.refl _ _) (Nat.le_refl _) (by simp) ?_;(case hd=>rfl);(case hg=>rfl);(case hr=>first|(go_simp;done)|(go_simp;rfl));(case hp=>exact (Reps.one (show Kd.M (Kd.int .i64) _ _ _ 2 [.int .i64 2] from rfl) (Reps.one (show Kd.M (Kd.int .i64) _ _ _ 6 [.int .i64 6] from rfl) (Reps.none _ _))));intro v213 w46 ho47 hb hg_ hnew_;clear hg_ hnew_;(first|rw [←Ny212.out] at ho47|(simp only [Int.reduceToNat] at ho47;rw [←Ny212.out] at ho47));have n0_:=Aside0.mk (Kd.R_lower ho47 (aZl (by repeat (first|(with_reducible first|exact HB.out|apply aZb|apply aZa|apply aZc)|exact HB.out))));have n1_:=Aside0.mk (aZo (by repeat (first|(with_reducible first|exact HB.out|apply aZb|apply aZa|apply aZc)|exact HB.out)) hb);clear HB;have HO214:=n0_;have HB:=n1_;clear n0_ n1_;clear hb ho47))
                        go_ret2
                        exact ⟨_,by first|rfl|(simp [errW_none,errW_some] <;> rfl)|(simp [*,errW_none,errW_some] <;> rfl),by (with_reducible repeat (first|apply Kd.R_alloc|apply Kd.R_drewN|apply Kd.R_drew));exact HO214.out,by repeat (first|(with_reducible first|exact HB.out|apply aZb|apply aZa|apply aZc)|exact HB.out)⟩
                       ·
                        rw [if_neg c45] at H
                        have c45b0:(a0 == 21)=false:=beq_eq_false_iff_ne.mpr c45
                        have c45b1:(a0 != 21)=true:=bne_iff_ne.mpr c45
                        by_cases c48:a0=22
                        ·
                         rw [if_pos c48] at H
                         have c48b0:(a0 == 22)=true:=beq_iff_eq.mpr c48
                         have c48b1:(a0 != 22)=false:=bne_eq_false_iff_eq.mpr c48
                         clear c48
                         obtain ⟨y215,hy215⟩:∃ y_:List Int,y_=(([2]:List Int)):=⟨_,rfl⟩
                         replace H:(some (y215,1))=some (r1,r2):=by first|(rw [hy215];with_reducible exact H)|(have H2_:=(Option.bind_some _ _).symm.trans H;rw [hy215];with_reducible exact H2_)|(have H2_:=(Option.bind_some _ _).symm.trans H;with_reducible exact H2_)|with_reducible exact H|(rw [hy215];exact H)|exact H
                         have Ny215:=Aside0.mk hy215
                         clear hy215
                         simp only [Option.some.injEq,Prod.mk.injEq] at H
                         obtain ⟨rfl,rfl⟩:=H
                         go_wp2_with (first|((with_reducible refine aZr (N:=63) rfl ?_);refine Kd.R_lit (Kd.int .i64) _ 3 ?hg (N:=63) ?hd (xs:=([2]:List Int)) (inner:=[.int .i64 2]) (ok:=fun _=>True) (okp:=fun _=>True) ?hr ?hp (fun _ hk=>hk) trivial (Below.refl _ _) (Nat.le_refl _) (by simp) ?_;(case hd=>rfl);(case hg=>rfl);(case hr=>first|(go_simp;done)|(go_simp;rfl));(case hp=>exact (Reps.one (show Kd.M (Kd.int .i64) _ _ _ 2 [.int .i64 2] from rfl) (Reps.none _ _)));intro v216 w49 ho50 hb hg_ hnew_;clear hg_ hnew_;(first|rw [←Ny215.out] at ho50|(simp only [Int.reduceToNat] at ho50;rw [←Ny215.out] at ho50));have n0_:=Aside0.mk (Kd.R_lower ho50 (aZl (by repeat (first|(with_reducible first|exact HB.out|apply aZb|apply aZa|apply aZc)|exact HB.out))));have n1_:=Aside0.mk (aZo (by repeat (first|(with_reducible first|exact HB.out|apply aZb|apply aZa|apply aZc)|exact HB.out)) hb);clear HB;have HO217:=n0_;have HB:=n1_;clear n0_ n1_;clear hb ho50))
                         go_ret2
                         exact ⟨_,by first|rfl|(simp [errW_none,errW_some] <;> rfl)|(simp [*,errW_none,errW_some] <;> rfl),by (with_reducible repeat (first|apply Kd.R_alloc|apply Kd.R_drewN|apply Kd.R_drew));exact HO217.out,by repeat (first|(with_reducible first|exact HB.out|apply aZb|apply aZa|apply aZc)|exact HB.out)⟩
                        ·
                         rw [if_neg c48] at H
                         have c48b0:(a0 == 22)=false:=beq_eq_false_iff_ne.mpr c48
                         have c48b1:(a0 != 22)=true:=bne_iff_ne.mpr c48
                         by_cases c51:a0=23
                         ·
                          rw [if_pos c51] at H
                          have c51b0:(a0 == 23)=true:=beq_iff_eq.mpr c51
                          have c51b1:(a0 != 23)=false:=bne_eq_false_iff_eq.mpr c51
                          clear c51
                          simp only [Option.some.injEq,Prod.mk.injEq] at H
                          obtain ⟨rfl,rfl⟩:=H
                          go_wp2
                          go_ret2
                          exact ⟨_,by first|rfl|(simp [errW_none,errW_some] <;> rfl)|(simp [*,errW_none,errW_some] <;> rfl),by first|exact Kd.R_nil _ _ _ _ _|exact Kd.N_nil _ _ _ _ _|exact Kd.V_nil _ _ _ _ _|exact Kd.Q_nil _ _ _ _ _|exact Kd.S_nil _ _ _ _ _,by repeat (first|(with_reducible first|exact HB.out|apply aZb|apply aZa|apply aZc)|exact HB.out)⟩
                         ·
                          rw [if_neg c51] at H
                          have c51b0:(a0 == 23)=false:=beq_eq_false_iff_ne.mpr c51
                          have c51b1:(a0 != 23)=true:=bne_iff_ne.mpr c51
                          by_cases c52:a0=24
                          ·
                           rw [if_pos c52] at H
                           have c52b0:(a0 == 24)=true:=beq_iff_eq.mpr c52
                           have c52b1:(a0 != 24)=false:=bne_eq_false_iff_eq.mpr c52
                           clear c52
                           obtain ⟨y218,hy218⟩:∃ y_:List Int,y_=(([3,5]:List Int)):=⟨_,rfl⟩
                           replace H:(some (y218,wrap64 (1+a1)))=some (r1,r2):=by first|(rw [hy218];with_reducible exact H)|(have H2_:=(Option.bind_some _ _).symm.trans H;rw [hy218];with_reducible exact H2_)|(have H2_:=(Option.bind_some _ _).symm.trans H;with_reducible exact H2_)|with_reducible exact H|(rw [hy218];exact H)|exact H
                           have Ny218:=Aside0.mk hy218
                           clear hy218
                           simp only [Option.some.injEq,Prod.mk.injEq] at H
                           obtain ⟨rfl,rfl⟩:=H
                           go_wp2_with (first|((with_reducible refine aZr (N:=68) rfl ?_);refine Kd.R_lit (Kd.int .i64) _ 3 ?hg (N:=68) ?hd (xs:=([3,5]:List Int)) (inner:=[.int .i64 3,.int .i64 5]) (ok:=fun _=>True) (okp:=fun _=>True) ?hr ?hp (fun _ hk=>hk) trivial (Below.refl _ _) (Nat.le_refl _) (by simp) ?_;(case hd=>rfl);(case hg=>rfl);(case hr=>first|(go_simp;done)|(go_simp;rfl));(case hp=>exact (Reps.one (show Kd.M (Kd.int .i64) _ _ _ 3 [.int .i64 3] from rfl) (Reps.one (show Kd.M (Kd.int .i64) _ _ _ 5 [.int .i64 5] from rfl) (Reps.none _ _))));intro v219 w53 ho54 hb hg_ hnew_;clear hg_ hnew_;(first|rw [←Ny218.out] at ho54|(simp only [Int.reduceToNat] at ho54;rw [←Ny218.out] at ho54));have n0_:=Aside0.mk (Kd.R_lower ho54 (aZl (by repeat (first|(with_reducible first|exact HB.out|apply aZb|apply aZa|apply aZc)|exact HB.out))));have n1_:=Aside0.mk (aZo (by repeat (first|(with_reducible first|exact HB.out|apply aZb|apply aZa|apply aZc)|exact HB.out)) hb);clear HB;have HO220:=n0_;have HB:=n1_;clear n0_ n1_;clear hb ho54))
                           go_ret2
                           exact ⟨_,by first|rfl|(simp [errW_none,errW_some] <;> rfl)|(simp [*,errW_none,errW_some] <;> rfl),by (with_reducible repeat (first|apply Kd.R_alloc|apply Kd.R_drewN|apply Kd.R_drew));exact HO220.out,by repeat (first|(with_reducible first|exact HB.out|apply aZb|apply aZa|apply aZc)|exact HB.out)⟩
                          ·
                           rw [if_neg c52] at H
                           have c52b0:(a0 == 24)=false:=beq_eq_false_iff_ne.mpr c52
                           have c52b1:(a0 != 24)=true:=bne_iff_ne.mpr c52
                           by_cases c55:a0=25
                           ·
                            rw [if_pos c55] at H
                            have c55b0:(a0 == 25)=true:=beq_iff_eq.mpr c55
                            have c55b1:(a0 != 25)=false:=bne_eq_false_iff_eq.mpr c55
                            clear c55
                            obtain ⟨y221,hy221⟩:∃ y_:List Int,y_=(([4,4]:List Int)):=⟨_,rfl⟩
                            replace H:(some (y221,wrap64 (1+a1)))=some (r1,r2):=by first|(rw [hy221];with_reducible exact H)|(have H2_:=(Option.bind_some _ _).symm.trans H;rw [hy221];with_reducible exact H2_)|(have H2_:=(Option.bind_some _ _).symm.trans H;with_reducible exact H2_)|with_reducible exact H|(rw [hy221];exact H)|exact H
                            have Ny221:=Aside0.mk hy221
                            clear hy221
                            simp only [Option.some.injEq,Prod.mk.injEq] at H
                            obtain ⟨rfl,rfl⟩:=H
                            go_wp2_with (first|((with_reducible refine aZr (N:=73) rfl ?_);refine Kd.R_lit (Kd.int .i64) _ 3 ?hg (N:=73) ?hd (xs:=([4,4]:List Int)) (inner:=[.int .i64 4,.int .i64 4]) (ok:=fun _=>True) (okp:=fun _=>True) ?hr ?hp (fun _ hk=>hk) trivial (Below.refl _ _) (Nat.le_refl _) (by simp) ?_;(case hd=>rfl);(case hg=>rfl);(case hr=>first|(go_simp;done)|(go_simp;rfl));(case hp=>exact (Reps.one (show Kd.M (Kd.int .i64) _ _ _ 4 [.int .i64 4] from rfl) (Reps.one (show Kd.M (Kd.int .i64) _ _ _ 4 [.int .i64 4] from rfl) (Reps.none _ _))));intro v222 w56 ho57 hb hg_ hnew_;clear hg_ hnew_;(first|rw [←Ny221.out] at ho57|(simp only [Int.reduceToNat] at ho57;rw [←Ny221.out] at ho57));have n0_:=Aside0.mk (Kd.R_lower ho57 (aZl (by repeat (first|(with_reducible first|exact HB.out|apply aZb|apply aZa|apply aZc)|exact HB.out))));have n1_:=Aside0.mk (aZo (by repeat (first|(with_reducible first|exact HB.out|apply aZb|apply aZa|apply aZc)|exact HB.out)) hb);clear HB;have HO223:=n0_;have HB:=n1_;clear n0_ n1_;clear hb ho57))
                            go_ret2
                            exact ⟨_,by first|rfl|(simp [errW_none,errW_some] <;> rfl)|(simp [*,errW_none,errW_some] <;> rfl),by (with_reducible repeat (first|apply Kd.R_alloc|apply Kd.R_drewN|apply Kd.R_drew));exact HO223.out,by repeat (first|(with_reducible first|exact HB.out|apply aZb|apply aZa|apply aZc)|exact HB.out)⟩
                           ·
                            rw [if_neg c55] at H
                            have c55b0:(a0 == 25)=false:=beq_eq_false_iff_ne.mpr c55
                            have c55b1:(a0 != 25)=true:=bne_iff_ne.mpr c55
                            by_cases c58:a0=26
                            ·
                             rw [if_pos c58] at H
                             have c58b0:(a0 == 26)=true:=beq_iff_eq.mpr c58
                             have c58b1:(a0 != 26)=false:=bne_eq_false_iff_eq.mpr c58
                             clear c58
                             obtain ⟨y224,hy224⟩:∃ y_:List Int,y_=(([4,6]:List Int)):=⟨_,rfl⟩
                             replace H:(some (y224,wrap64 (1+a1)))=some (r1,r2):=by first|(rw [hy224];with_reducible exact H)|(have H2_:=(Option.bind_some _ _).symm.trans H;rw [hy224];with_reducible exact H2_)|(have H2_:=(Option.bind_some _ _).symm.trans H;with_reducible exact H2_)|with_reducible exact H|(rw [hy224];exact H)|exact H
                             have Ny224:=Aside0.mk hy224
                             clear hy224
                             simp only [Option.some.injEq,Prod.mk.injEq] at H
                             obtain ⟨rfl,rfl⟩:=H
                             go_wp2_with (first|((with_reducible refine aZr (N:=78) rfl ?_);refine Kd.R_lit (Kd.int .i64) _ 3 ?hg (N:=78) ?hd (xs:=([4,6]:List Int)) (inner:=[.int .i64 4,.int .i64 6]) (ok:=fun _=>True) (okp:=fun _=>True) ?hr ?hp (fun _ hk=>hk) trivial (Below.refl _ _) (Nat.le_refl _) (by simp) ?_;(case hd=>rfl);(case hg=>rfl);(case hr=>first|(go_simp;done)|(go_simp;rfl));(case hp=>exact (Reps.one (show Kd.M (Kd.int .i64) _ _ _ 4 [.int .i64 4] from rfl) (Reps.one (show Kd.M (Kd.int .i64) _ _ _ 6 [.int .i64 6] from rfl) (Reps.none _ _))));intro v225 w59 ho60 hb hg_ hnew_;clear hg_ hnew_;(first|rw [←Ny224.out] at ho60|(simp only [Int.reduceToNat] at ho60;rw [←Ny224.out] at ho60));have n0_:=Aside0.mk (Kd.R_lower ho60 (aZl (by repeat (first|(with_reducible first|exact HB.out|apply aZb|apply aZa|apply aZc)|exact HB.out))));have n1_:=Aside0.mk (aZo (by repeat (first|(with_reducible first|exact HB.out|apply aZb|apply aZa|apply aZc)|exact HB.out)) hb);clear HB;have HO226:=n0_;have HB:=n1_;clear n0_ n1_;clear hb ho60))
                             go_ret2
                             exact ⟨_,by first|rfl|(simp [errW_none,errW_some] <;> rfl)|(simp [*,errW_none,errW_some] <;> rfl),by (with_reducible repeat (first|apply Kd.R_alloc|apply Kd.R_drewN|apply Kd.R_drew));exact HO226.out,by repeat (first|(with_reducible first|exact HB.out|apply aZb|apply aZa|apply aZc)|exact HB.out)⟩
                            ·
                             rw [if_neg c58] at H
                             have c58b0:(a0 == 26)=false:=beq_eq_false_iff_ne.mpr c58
                             have c58b1:(a0 != 26)=true:=bne_iff_ne.mpr c58
                             by_cases c61:a0=36
                             ·
                              rw [if_pos c61] at H
                              have c61b0:(a0 == 36)=true:=beq_iff_eq.mpr c61
                              have c61b1:(a0 != 36)=false:=bne_eq_false_iff_eq.mpr c61
                              clear c61
                              obtain ⟨y227,hy227⟩:∃ y_:List Int,y_=(([1]:List Int)):=⟨_,rfl⟩
                              replace H:(some (y227,0))=some (r1,r2):=by first|(rw [hy227];with_reducible exact H)|(have H2_:=(Option.bind_some _ _).symm.trans H;rw [hy227];with_reducible exact H2_)|(have H2_:=(Option.bind_some _ _).symm.trans H;with_reducible exact H2_)|with_reducible exact H|(rw [hy227];exact H)|exact H
                              have Ny227:=Aside0.mk hy227
                              clear hy227
                              simp only [Option.some.injEq,Prod.mk.injEq] at H
                              obtain ⟨rfl,rfl⟩:=H
                              go_wp2_with (first|((with_reducible refine aZr (N:=83) rfl ?_);refine Kd.R_lit (Kd.int .i64) _ 3 ?hg (N:=83) ?hd (xs:=([1]:List Int)) (inner:=[.int .i64 1]) (ok:=fun _=>True) (okp:=fun _=>True) ?hr ?hp (fun _ hk=>hk) trivial (Below.refl _ _) (Nat.le_refl _) (by simp) ?_;(case hd=>rfl);(case hg=>rfl);(case hr=>first|(go_simp;done)|(go_simp;rfl));(case hp=>exact (Reps.one (show Kd.M (Kd.int .i64) _ _ _ 1 [.int .i64 1] from rfl) (Reps.none _ _)));intro v228 w62 ho63 hb hg_ hnew_;clear hg_ hnew_;(first|rw [←Ny227.out] at ho63|(simp only [Int.reduceToNat] at ho63;rw [←Ny227.out] at ho63));have n0_:=Aside0.mk (Kd.R_lower ho63 (aZl (by repeat (first|(with_reducible first|exact HB.out|apply aZb|apply aZa|apply aZc)|exact HB.out))));have n1_:=Aside0.mk (aZo (by repeat (first|(with_reducible first|exact HB.out|apply aZb|apply aZa|apply aZc)|exact HB.out)) hb);clear HB;have HO229:=n0_;have HB:=n1_;clear n0_ n1_;clear hb ho63))
                              go_ret2
                              exact ⟨_,by first|rfl|(simp [errW_none,errW_some] <;> rfl)|(simp [*,errW_none,errW_some] <;> rfl),by (with_reducible repeat (first|apply Kd.R_alloc|apply Kd.R_drewN|apply Kd.R_drew));exact HO229.out,by repeat (first|(with_reducible first|exact HB.out|apply aZb|apply aZa|apply aZc)|exact HB.out)⟩
                             ·
                              rw [if_neg c61] at H
                              have c61b0:(a0 == 36)=false:=beq_eq_false_iff_ne.mpr c61
                              have c61b1:(a0 != 36)=true:=bne_iff_ne.mpr c61
                              simp only [Option.some.injEq,Prod.mk.injEq] at H
                              obtain ⟨rfl,rfl⟩:=H
                              go_wp2
                              go_ret2
                              exact ⟨_,by first|rfl|(simp [errW_none,errW_some] <;> rfl)|(simp [*,errW_none,errW_some] <;> rfl),by first|exact Kd.R_nil _ _ _ _ _|exact Kd.N_nil _ _ _ _ _|exact Kd.V_nil _ _ _ _ _|exact Kd.Q_nil _ _ _ _ _|exact Kd.S_nil _ _ _ _ _,by repeat (first|(with_reducible first|exact HB.out|apply aZb|apply aZa|apply aZc)|exact HB.out)⟩
def berthref21_bitmap.f (a0:Int):Option (Bool):=if a0=1 then (some true) else (some (a0 == 2))
theorem berthref21_bitmap.calls (a0:Int) (r:Bool) (w:World) (h:berthref21_bitmap.f a0=some r) :
 Calls Try.prog 108 #[.int .i64 a0] w fun e w'=>e=.returned (.bool r)∧Drawn0 w w':=by
 have H:(if a0=1 then (some true) else (some (a0 == 2)))=some r:=h
 clear h
 by_cases c2:a0=1
 ·
  rw [if_pos c2] at H
  have c2b0:(a0 == 1)=true:=beq_iff_eq.mpr c2
  have c2b1:(a0 != 1)=false:=bne_eq_false_iff_eq.mpr c2
  clear c2
  obtain rfl:=Option.some.inj H
  go_enter Try.func108,Try.ntmps108
  go_wp2
  go_ret
  exact ⟨by first|rfl|(simp;done)|(simp [*];done)|(simp only [aZk];done)|(simp [aZk,Int.tdiv_eq_ediv_of_nonneg];done),by repeat (first|exact Drawn0.refl _|apply Drawn0.step)⟩
 ·
  rw [if_neg c2] at H
  have c2b0:(a0 == 1)=false:=beq_eq_false_iff_ne.mpr c2
  have c2b1:(a0 != 1)=true:=bne_iff_ne.mpr c2
  obtain rfl:=Option.some.inj H
  go_enter Try.func108,Try.ntmps108
  go_wp2
  go_ret
  exact ⟨by first|rfl|(simp;done)|(simp [*];done)|(simp only [aZk];done)|(simp [aZk,Int.tdiv_eq_ediv_of_nonneg];done),by repeat (first|exact Drawn0.refl _|apply Drawn0.step)⟩
end Go.Proofs.Ytbnplhmmbnmagaa.All
