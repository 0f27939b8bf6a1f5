/- The program's type, as the rows open it. -/
import Derived.Test.YtbnplhmmbnmagaazAMm2
import Derived.Test.YtbnplhmmbnmagaazAMm3
set_option maxHeartbeats 4000000
set_option maxRecDepth 100000
set_option linter.all false
namespace Go.Proofs.Ytbnplhmmbnmagaa.All
open Go.RowKit Go.Proofs.YtbnplhmmbnmagaaW.PrintWords Go.Proofs.YtbnplhmmbnmagaaW.PrintLast Go.Proofs.YtbnplhmmbnmagaaW.PrintMore
attribute [local go_sem] bZN bZL cZj cZh bZn bZm bZM bZK
attribute [local go_sem] Go.Proofs.YtbnplhmmbnmagaaX.binOp_leq Go.Proofs.YtbnplhmmbnmagaaX.binOp_geq Go.Proofs.YtbnplhmmbnmagaaX.binOp_gtr
mutual
def berthref20_Uses.j0:Nat→Int→Bool→Option (Bool × Bool × Bool)
  | 0,_,_=>none
  | k+1,x5,x6=>if x6=true then (some (true,false,false)) else (if x5=19 then (berthref20_Uses.j1 k x5 (x5 == 19)) else (if x5=21 then (berthref20_Uses.j1 k x5 (x5 == 21)) else (if x5=22 then (berthref20_Uses.j1 k x5 (x5 == 22)) else (berthref20_Uses.j1 k x5 (x5 == 23)))))
def berthref20_Uses.j1:Nat→Int→Bool→Option (Bool × Bool × Bool)
  | 0,_,_=>none
  | k+1,x5,x22=>if x22=true then (some (false,true,false)) else (if x5=12 then (berthref20_Uses.j2 k x5 (x5 == 12)) else (berthref20_Uses.j2 k x5 (x5 == 17)))
def berthref20_Uses.j2:Nat→Int→Bool→Option (Bool × Bool × Bool)
  | 0,_,_=>none
  | k+1,x5,x27=>if x27=true then (some (true,true,false)) else (if x5=25 then (some (true,false,true)) else (if x5=18 then (berthref20_Uses.j3 k x5 (x5 == 18)) else (berthref20_Uses.j3 k x5 (x5 == 20))))
def berthref20_Uses.j3:Nat→Int→Bool→Option (Bool × Bool × Bool)
  | 0,_,_=>none
  | k+1,x5,x32=>if x32=true then (some (false,true,true)) else (if x5=16 then (some (true,true,true)) else (some (false,false,false)))
end
def berthref20_Uses.f (k:Nat) (a0:Int):Option (Bool × Bool × Bool):=if a0=1 then (berthref20_Uses.j0 k a0 (a0 == 1)) else (if a0=2 then (berthref20_Uses.j0 k a0 (a0 == 2)) else (if a0=3 then (berthref20_Uses.j0 k a0 (a0 == 3)) else (if a0=4 then (berthref20_Uses.j0 k a0 (a0 == 4)) else (if a0=5 then (berthref20_Uses.j0 k a0 (a0 == 5)) else (if a0=6 then (berthref20_Uses.j0 k a0 (a0 == 6)) else (if a0=7 then (berthref20_Uses.j0 k a0 (a0 == 7)) else (if a0=13 then (berthref20_Uses.j0 k a0 (a0 == 13)) else (if a0=14 then (berthref20_Uses.j0 k a0 (a0 == 14)) else (if a0=24 then (berthref20_Uses.j0 k a0 (a0 == 24)) else (if a0=26 then (berthref20_Uses.j0 k a0 (a0 == 26)) else (if a0=31 then (berthref20_Uses.j0 k a0 (a0 == 31)) else (if a0=32 then (berthref20_Uses.j0 k a0 (a0 == 32)) else (if a0=33 then (berthref20_Uses.j0 k a0 (a0 == 33)) else (berthref20_Uses.j0 k a0 (a0 == 34)))))))))))))))
theorem berthref20_Uses.calls (k:Nat) (a0:Int) (r1:Bool) (r2:Bool) (r3:Bool) (w:World) (h:berthref20_Uses.f k a0=some (r1,r2,r3)) :
 Calls Try.prog 101 #[.int .i64 a0] w fun e w'=>e=.returned (.tuple #[.bool r1,.bool r2,.bool r3])∧Drawn0 w w':=by
 have H:(if a0=1 then (berthref20_Uses.j0 k a0 (a0 == 1)) else (if a0=2 then (berthref20_Uses.j0 k a0 (a0 == 2)) else (if a0=3 then (berthref20_Uses.j0 k a0 (a0 == 3)) else (if a0=4 then (berthref20_Uses.j0 k a0 (a0 == 4)) else (if a0=5 then (berthref20_Uses.j0 k a0 (a0 == 5)) else (if a0=6 then (berthref20_Uses.j0 k a0 (a0 == 6)) else (if a0=7 then (berthref20_Uses.j0 k a0 (a0 == 7)) else (if a0=13 then (berthref20_Uses.j0 k a0 (a0 == 13)) else (if a0=14 then (berthref20_Uses.j0 k a0 (a0 == 14)) else (if a0=24 then (berthref20_Uses.j0 k a0 (a0 == 24)) else (if a0=26 then (berthref20_Uses.j0 k a0 (a0 == 26)) else (if a0=31 then (berthref20_Uses.j0 k a0 (a0 == 31)) else (if a0=32 then (berthref20_Uses.j0 k a0 (a0 == 32)) else (if a0=33 then (berthref20_Uses.j0 k a0 (a0 == 33)) else (berthref20_Uses.j0 k a0 (a0 == 34))))))))))))))))=some (r1,r2,r3):=h
 clear h
 have HC2:=Aside0.mk H
 clear H
 go_enter Try.func101,Try.ntmps101
 go_upto_if 6 with (fail)
 go_cut [6] (fun v6 wc=>∃ (kq:Nat) (x6_1:Bool),v6=.bool x6_1∧Aside0 (berthref20_Uses.j0 kq a0 x6_1=some (r1,r2,r3))∧Aside0 (kq≤k)∧Drawn0 w wc)
 case first =>
  have H:=HC2.out
  clear HC2
  by_cases c3:a0=1
  ·
   rw [if_pos c3] at H
   have c3b0:(a0 == 1)=true:=beq_iff_eq.mpr c3
   have c3b1:(a0 != 1)=false:=bne_eq_false_iff_eq.mpr c3
   clear c3
   (rw [c3b0])
   have H':=Aside0.mk H
   clear H
   go_wp2
   go_meet
   case rel=>exact ⟨_,((a0 == 1)),(by (simp [*];done)),H',⟨by omega⟩,by repeat (exact Drawn0.refl _)⟩
  ·
   rw [if_neg c3] at H
   have c3b0:(a0 == 1)=false:=beq_eq_false_iff_ne.mpr c3
   have c3b1:(a0 != 1)=true:=bne_iff_ne.mpr c3
   (rw [c3b0])
   by_cases c4:a0=2
   ·
    rw [if_pos c4] at H
    have c4b0:(a0 == 2)=true:=beq_iff_eq.mpr c4
    have c4b1:(a0 != 2)=false:=bne_eq_false_iff_eq.mpr c4
    clear c4
    have H':=Aside0.mk H
    clear H
    go_wp2
    go_meet
    case rel=>exact ⟨_,((a0 == 2)),(by (simp [*];done)),H',⟨by omega⟩,by repeat (exact Drawn0.refl _)⟩
   ·
    rw [if_neg c4] at H
    have c4b0:(a0 == 2)=false:=beq_eq_false_iff_ne.mpr c4
    have c4b1:(a0 != 2)=true:=bne_iff_ne.mpr c4
    by_cases c5:a0=3
    ·
     rw [if_pos c5] at H
     have c5b0:(a0 == 3)=true:=beq_iff_eq.mpr c5
     have c5b1:(a0 != 3)=false:=bne_eq_false_iff_eq.mpr c5
     clear c5
     have H':=Aside0.mk H
     clear H
     go_wp2
     go_meet
     case rel=>exact ⟨_,((a0 == 3)),(by (simp [*];done)),H',⟨by omega⟩,by repeat (exact Drawn0.refl _)⟩
    ·
     rw [if_neg c5] at H
     have c5b0:(a0 == 3)=false:=beq_eq_false_iff_ne.mpr c5
     have c5b1:(a0 != 3)=true:=bne_iff_ne.mpr c5
     by_cases c6:a0=4
     ·
      rw [if_pos c6] at H
      have c6b0:(a0 == 4)=true:=beq_iff_eq.mpr c6
      have c6b1:(a0 != 4)=false:=bne_eq_false_iff_eq.mpr c6
      clear c6
      have H':=Aside0.mk H
      clear H
      go_wp2
      go_meet
      case rel=>exact ⟨_,((a0 == 4)),(by (simp [*];done)),H',⟨by omega⟩,by repeat (exact Drawn0.refl _)⟩
     ·
      rw [if_neg c6] at H
      have c6b0:(a0 == 4)=false:=beq_eq_false_iff_ne.mpr c6
      have c6b1:(a0 != 4)=true:=bne_iff_ne.mpr c6
      by_cases c7:a0=5
      ·
       rw [if_pos c7] at H
       have c7b0:(a0 == 5)=true:=beq_iff_eq.mpr c7
       have c7b1:(a0 != 5)=false:=bne_eq_false_iff_eq.mpr c7
       clear c7
       have H':=Aside0.mk H
       clear H
       go_wp2
       go_meet
       case rel=>exact ⟨_,((a0 == 5)),(by (simp [*];done)),H',⟨by omega⟩,by repeat (exact Drawn0.refl _)⟩
      ·
       rw [if_neg c7] at H
       have c7b0:(a0 == 5)=false:=beq_eq_false_iff_ne.mpr c7
       have c7b1:(a0 != 5)=true:=bne_iff_ne.mpr c7
       by_cases c8:a0=6
       ·
        rw [if_pos c8] at H
        have c8b0:(a0 == 6)=true:=beq_iff_eq.mpr c8
        have c8b1:(a0 != 6)=false:=bne_eq_false_iff_eq.mpr c8
        clear c8
        have H':=Aside0.mk H
        clear H
        go_wp2
        go_meet
        case rel=>exact ⟨_,((a0 == 6)),(by (simp [*];done)),H',⟨by omega⟩,by repeat (exact Drawn0.refl _)⟩
       ·
        rw [if_neg c8] at H
        have c8b0:(a0 == 6)=false:=beq_eq_false_iff_ne.mpr c8
        have c8b1:(a0 != 6)=true:=bne_iff_ne.mpr c8
        by_cases c9:a0=7
        ·
         rw [if_pos c9] at H
         have c9b0:(a0 == 7)=true:=beq_iff_eq.mpr c9
         have c9b1:(a0 != 7)=false:=bne_eq_false_iff_eq.mpr c9
         clear c9
         have H':=Aside0.mk H
         clear H
         go_wp2
         go_meet
         case rel=>exact ⟨_,((a0 == 7)),(by (simp [*];done)),H',⟨by omega⟩,by repeat (exact Drawn0.refl _)⟩
        ·
         rw [if_neg c9] at H
         have c9b0:(a0 == 7)=false:=beq_eq_false_iff_ne.mpr c9
         have c9b1:(a0 != 7)=true:=bne_iff_ne.mpr c9
         by_cases c10:a0=13
         ·
          rw [if_pos c10] at H
          have c10b0:(a0 == 13)=true:=beq_iff_eq.mpr c10
          have c10b1:(a0 != 13)=false:=bne_eq_false_iff_eq.mpr c10
          clear c10
          have H':=Aside0.mk H
          clear H
          go_wp2
          go_meet
          case rel=>exact ⟨_,((a0 == 13)),(by (simp [*];done)),H',⟨by omega⟩,by repeat (exact Drawn0.refl _)⟩
         ·
          rw [if_neg c10] at H
          have c10b0:(a0 == 13)=false:=beq_eq_false_iff_ne.mpr c10
          have c10b1:(a0 != 13)=true:=bne_iff_ne.mpr c10
          by_cases c11:a0=14
          ·
           rw [if_pos c11] at H
           have c11b0:(a0 == 14)=true:=beq_iff_eq.mpr c11
           have c11b1:(a0 != 14)=false:=bne_eq_false_iff_eq.mpr c11
           clear c11
           have H':=Aside0.mk H
           clear H
           go_wp2
           go_meet
           case rel=>exact ⟨_,((a0 == 14)),(by (simp [*];done)),H',⟨by omega⟩,by repeat (exact Drawn0.refl _)⟩
          ·
           rw [if_neg c11] at H
           have c11b0:(a0 == 14)=false:=beq_eq_false_iff_ne.mpr c11
           have c11b1:(a0 != 14)=true:=bne_iff_ne.mpr c11
           by_cases c12:a0=24
           ·
            rw [if_pos c12] at H
            have c12b0:(a0 == 24)=true:=beq_iff_eq.mpr c12
            have c12b1:(a0 != 24)=false:=bne_eq_false_iff_eq.mpr c12
            clear c12
            have H':=Aside0.mk H
            clear H
            go_wp2
            go_meet
            case rel=>exact ⟨_,((a0 == 24)),(by (simp [*];done)),H',⟨by omega⟩,by repeat (exact Drawn0.refl _)⟩
           ·
            rw [if_neg c12] at H
            have c12b0:(a0 == 24)=false:=beq_eq_false_iff_ne.mpr c12
            have c12b1:(a0 != 24)=true:=bne_iff_ne.mpr c12
            by_cases c13:a0=26
            ·
             rw [if_pos c13] at H
             have c13b0:(a0 == 26)=true:=beq_iff_eq.mpr c13
             have c13b1:(a0 != 26)=false:=bne_eq_false_iff_eq.mpr c13
             clear c13
             have H':=Aside0.mk H
             clear H
             go_wp2
             go_meet
             case rel=>exact ⟨_,((a0 == 26)),(by (simp [*];done)),H',⟨by omega⟩,by repeat (exact Drawn0.refl _)⟩
            ·
             rw [if_neg c13] at H
             have c13b0:(a0 == 26)=false:=beq_eq_false_iff_ne.mpr c13
             have c13b1:(a0 != 26)=true:=bne_iff_ne.mpr c13
             by_cases c14:a0=31
             ·
              rw [if_pos c14] at H
              have c14b0:(a0 == 31)=true:=beq_iff_eq.mpr c14
              have c14b1:(a0 != 31)=false:=bne_eq_false_iff_eq.mpr c14
              clear c14
              have H':=Aside0.mk H
              clear H
              go_wp2
              go_meet
              case rel=>exact ⟨_,((a0 == 31)),(by (simp [*];done)),H',⟨by omega⟩,by repeat (exact Drawn0.refl _)⟩
             ·
              rw [if_neg c14] at H
              have c14b0:(a0 == 31)=false:=beq_eq_false_iff_ne.mpr c14
              have c14b1:(a0 != 31)=true:=bne_iff_ne.mpr c14
              by_cases c15:a0=32
              ·
               rw [if_pos c15] at H
               have c15b0:(a0 == 32)=true:=beq_iff_eq.mpr c15
               have c15b1:(a0 != 32)=false:=bne_eq_false_iff_eq.mpr c15
               clear c15
               have H':=Aside0.mk H
               clear H
               go_wp2
               go_meet
               case rel=>exact ⟨_,((a0 == 32)),(by (simp [*];done)),H',⟨by omega⟩,by repeat (exact Drawn0.refl _)⟩
              ·
               rw [if_neg c15] at H
               have c15b0:(a0 == 32)=false:=beq_eq_false_iff_ne.mpr c15
               have c15b1:(a0 != 32)=true:=bne_iff_ne.mpr c15
               by_cases c16:a0=33
               ·
                rw [if_pos c16] at H
                have c16b0:(a0 == 33)=true:=beq_iff_eq.mpr c16
                have c16b1:(a0 != 33)=false:=bne_eq_false_iff_eq.mpr c16
                clear c16
                have H':=Aside0.mk H
                clear H
                go_wp2
                go_meet
                case rel=>exact ⟨_,((a0 == 33)),(by (simp [*];done)),H',⟨by omega⟩,by repeat (exact Drawn0.refl _)⟩
               ·
                rw [if_neg c16] at H
                have c16b0:(a0 == 33)=false:=beq_eq_false_iff_ne.mpr c16
                have c16b1:(a0 != 33)=true:=bne_iff_ne.mpr c16
                have H':=Aside0.mk H
                clear H
                go_wp2
                go_meet
                case rel=>exact ⟨_,((a0 == 34)),(by rfl),H',⟨by omega⟩,by repeat (exact Drawn0.refl _)⟩
 case rest =>
  clear HC2
  obtain ⟨kq,x6_1,rfl,HA,HJ1,⟨mc1,rfl⟩⟩:=hcut
  cases kq with
  | zero=>exact absurd HA.out (by simp [berthref20_Uses.j0])
  | succ kj1 =>
   have H:=HA.out
   clear HA
   simp only [berthref20_Uses.j0] at H
   by_cases c17:x6_1=true
   ·
    subst c17
    have H1:(some (true,false,false))=some (r1,r2,r3):=by rw [if_pos rfl] at H;exact H
    clear H
    have H:=H1
    clear H1
    simp only [Option.some.injEq,Prod.mk.injEq] at H
    obtain ⟨rfl,rfl,rfl⟩:=H
    go_wp2
    go_ret3
    exact ⟨by rfl,by repeat (first|exact Drawn0.refl _|apply Drawn0.step)⟩
   ·
    replace c17:=Bool.eq_false_iff.mpr c17
    subst c17
    have H1:(if a0=19 then (berthref20_Uses.j1 kj1 a0 (a0 == 19)) else (if a0=21 then (berthref20_Uses.j1 kj1 a0 (a0 == 21)) else (if a0=22 then (berthref20_Uses.j1 kj1 a0 (a0 == 22)) else (berthref20_Uses.j1 kj1 a0 (a0 == 23)))))=some (r1,r2,r3):=by rw [if_neg (show ¬(false=true) by decide)] at H;exact H
    clear H
    have H:=H1
    clear H1
    have HC18:=Aside0.mk H
    clear H
    go_upto_if 22 with (fail)
    go_cut [22] (fun v22 wc=>∃ (kq:Nat) (x22_17:Bool),v22=.bool x22_17∧Aside0 (berthref20_Uses.j1 kq a0 x22_17=some (r1,r2,r3))∧Aside0 (kq≤kj1)∧Drawn0 w wc)
    case first =>
     have H:=HC18.out
     clear HC18
     by_cases c19:a0=19
     ·
      rw [if_pos c19] at H
      have c19b0:(a0 == 19)=true:=beq_iff_eq.mpr c19
      have c19b1:(a0 != 19)=false:=bne_eq_false_iff_eq.mpr c19
      clear c19
      (rw [c19b0])
      have H':=Aside0.mk H
      clear H
      go_wp2
      go_meet
      case rel=>exact ⟨_,((a0 == 19)),(by (simp [*];done)),H',⟨by have:=HJ1.out;omega⟩,by repeat (first|exact Drawn0.refl _|apply Drawn0.step)⟩
     ·
      rw [if_neg c19] at H
      have c19b0:(a0 == 19)=false:=beq_eq_false_iff_ne.mpr c19
      have c19b1:(a0 != 19)=true:=bne_iff_ne.mpr c19
      (rw [c19b0])
      by_cases c20:a0=21
      ·
       rw [if_pos c20] at H
       have c20b0:(a0 == 21)=true:=beq_iff_eq.mpr c20
       have c20b1:(a0 != 21)=false:=bne_eq_false_iff_eq.mpr c20
       clear c20
       have H':=Aside0.mk H
       clear H
       go_wp2
       go_meet
       case rel=>exact ⟨_,((a0 == 21)),(by (simp [*];done)),H',⟨by have:=HJ1.out;omega⟩,by repeat (first|exact Drawn0.refl _|apply Drawn0.step)⟩
      ·
       rw [if_neg c20] at H
       have c20b0:(a0 == 21)=false:=beq_eq_false_iff_ne.mpr c20
       have c20b1:(a0 != 21)=true:=bne_iff_ne.mpr c20
       by_cases c21:a0=22
       ·
        rw [if_pos c21] at H
        have c21b0:(a0 == 22)=true:=beq_iff_eq.mpr c21
        have c21b1:(a0 != 22)=false:=bne_eq_false_iff_eq.mpr c21
        clear c21
        have H':=Aside0.mk H
        clear H
        go_wp2
        go_meet
        case rel=>exact ⟨_,((a0 == 22)),(by (simp [*];done)),H',⟨by have:=HJ1.out;omega⟩,by repeat (first|exact Drawn0.refl _|apply Drawn0.step)⟩
       ·
        rw [if_neg c21] at H
        have c21b0:(a0 == 22)=false:=beq_eq_false_iff_ne.mpr c21
        have c21b1:(a0 != 22)=true:=bne_iff_ne.mpr c21
        have H':=Aside0.mk H
        clear H
        go_wp2
        go_meet
        case rel=>exact ⟨_,((a0 == 23)),(by rfl),H',⟨by have:=HJ1.out;omega⟩,by repeat (first|exact Drawn0.refl _|apply Drawn0.step)⟩
    case rest =>
     clear HC18
     obtain ⟨kq,x22_17,rfl,HA,HJ17,⟨mc17,rfl⟩⟩:=hcut
     cases kq with
     | zero=>exact absurd HA.out (by simp [berthref20_Uses.j1])
     | succ kj17 =>
      have H:=HA.out
      clear HA
      simp only [berthref20_Uses.j1] at H
      by_cases c22:x22_17=true
      ·
       subst c22
       have H1:(some (false,true,false))=some (r1,r2,r3):=by rw [if_pos rfl] at H;exact H
       clear H
       have H:=H1
       clear H1
       simp only [Option.some.injEq,Prod.mk.injEq] at H
       obtain ⟨rfl,rfl,rfl⟩:=H
       go_wp2
       go_ret3
       exact ⟨by rfl,by repeat (first|exact Drawn0.refl _|apply Drawn0.step)⟩
      ·
       replace c22:=Bool.eq_false_iff.mpr c22
       subst c22
       have H1:(if a0=12 then (berthref20_Uses.j2 kj17 a0 (a0 == 12)) else (berthref20_Uses.j2 kj17 a0 (a0 == 17)))=some (r1,r2,r3):=by rw [if_neg (show ¬(false=true) by decide)] at H;exact H
       clear H
       have H:=H1
       clear H1
       have HC23:=Aside0.mk H
       clear H
       go_upto_if 27 with (fail)
       go_cut [27] (fun v27 wc=>∃ (kq:Nat) (x27_22:Bool),v27=.bool x27_22∧Aside0 (berthref20_Uses.j2 kq a0 x27_22=some (r1,r2,r3))∧Aside0 (kq≤kj17)∧Drawn0 w wc)
       case first =>
        have H:=HC23.out
        clear HC23
        by_cases c24:a0=12
        ·
         rw [if_pos c24] at H
         have c24b0:(a0 == 12)=true:=beq_iff_eq.mpr c24
         have c24b1:(a0 != 12)=false:=bne_eq_false_iff_eq.mpr c24
         clear c24
         (rw [c24b0])
         have H':=Aside0.mk H
         clear H
         go_wp2
         go_meet
         case rel=>exact ⟨_,((a0 == 12)),(by (simp [*];done)),H',⟨by have:=HJ1.out;have:=HJ17.out;omega⟩,by repeat (first|exact Drawn0.refl _|apply Drawn0.step)⟩
        ·
         rw [if_neg c24] at H
         have c24b0:(a0 == 12)=false:=beq_eq_false_iff_ne.mpr c24
         have c24b1:(a0 != 12)=true:=bne_iff_ne.mpr c24
         (rw [c24b0])
         have H':=Aside0.mk H
         clear H
         go_wp2
         go_meet
         case rel=>exact ⟨_,((a0 == 17)),(by rfl),H',⟨by have:=HJ1.out;have:=HJ17.out;omega⟩,by repeat (first|exact Drawn0.refl _|apply Drawn0.step)⟩
       case rest =>
        clear HC23
        obtain ⟨kq,x27_22,rfl,HA,HJ22,⟨mc22,rfl⟩⟩:=hcut
        cases kq with
        | zero=>exact absurd HA.out (by simp [berthref20_Uses.j2])
        | succ kj22 =>
         have H:=HA.out
         clear HA
         simp only [berthref20_Uses.j2] at H
         by_cases c25:x27_22=true
         ·
          subst c25
          have H1:(some (true,true,false))=some (r1,r2,r3):=by rw [if_pos rfl] at H;exact H
          clear H
          have H:=H1
          clear H1
          simp only [Option.some.injEq,Prod.mk.injEq] at H
          obtain ⟨rfl,rfl,rfl⟩:=H
          go_wp2
          go_ret3
          exact ⟨by rfl,by repeat (first|exact Drawn0.refl _|apply Drawn0.step)⟩
         ·
          replace c25:=Bool.eq_false_iff.mpr c25
          subst c25
          have H1:(if a0=25 then (some (true,false,true)) else (if a0=18 then (berthref20_Uses.j3 kj22 a0 (a0 == 18)) else (berthref20_Uses.j3 kj22 a0 (a0 == 20))))=some (r1,r2,r3):=by rw [if_neg (show ¬(false=true) by decide)] at H;exact H
          clear H
          have H:=H1
          clear H1
          by_cases c26:a0=25
          ·
           rw [if_pos c26] at H
           have c26b0:(a0 == 25)=true:=beq_iff_eq.mpr c26
           have c26b1:(a0 != 25)=false:=bne_eq_false_iff_eq.mpr c26
           clear c26
           simp only [Option.some.injEq,Prod.mk.injEq] at H
           obtain ⟨rfl,rfl,rfl⟩:=H
           go_wp2
           go_ret3
           exact ⟨by rfl,by repeat (first|exact Drawn0.refl _|apply Drawn0.step)⟩
          ·
           rw [if_neg c26] at H
           have c26b0:(a0 == 25)=false:=beq_eq_false_iff_ne.mpr c26
           have c26b1:(a0 != 25)=true:=bne_iff_ne.mpr c26
           have HC27:=Aside0.mk H
           clear H
           go_upto_if 32 with (fail)
           go_cut [32] (fun v32 wc=>∃ (kq:Nat) (x32_26:Bool),v32=.bool x32_26∧Aside0 (berthref20_Uses.j3 kq a0 x32_26=some (r1,r2,r3))∧Aside0 (kq≤kj22)∧Drawn0 w wc)
           case first =>
            have H:=HC27.out
            clear HC27
            by_cases c28:a0=18
            ·
             rw [if_pos c28] at H
             have c28b0:(a0 == 18)=true:=beq_iff_eq.mpr c28
             have c28b1:(a0 != 18)=false:=bne_eq_false_iff_eq.mpr c28
             clear c28
             (rw [c28b0])
             have H':=Aside0.mk H
             clear H
             go_wp2
             go_meet
             case rel=>exact ⟨_,((a0 == 18)),(by (simp [*];done)),H',⟨by have:=HJ1.out;have:=HJ17.out;have:=HJ22.out;omega⟩,by repeat (first|exact Drawn0.refl _|apply Drawn0.step)⟩
            ·
             rw [if_neg c28] at H
             have c28b0:(a0 == 18)=false:=beq_eq_false_iff_ne.mpr c28
             have c28b1:(a0 != 18)=true:=bne_iff_ne.mpr c28
             (rw [c28b0])
             have H':=Aside0.mk H
             clear H
             go_wp2
             go_meet
             case rel=>exact ⟨_,((a0 == 20)),(by rfl),H',⟨by have:=HJ1.out;have:=HJ17.out;have:=HJ22.out;omega⟩,by repeat (first|exact Drawn0.refl _|apply Drawn0.step)⟩
           case rest =>
            clear HC27
            try clear c26;try clear c26b0;try clear c26b1
            obtain ⟨kq,x32_26,rfl,HA,HJ26,⟨mc26,rfl⟩⟩:=hcut
            cases kq with
            | zero=>exact absurd HA.out (by simp [berthref20_Uses.j3])
            | succ kj26 =>
             have H:=HA.out
             clear HA
             simp only [berthref20_Uses.j3] at H
             by_cases c29:x32_26=true
             ·
              subst c29
              have H1:(some (false,true,true))=some (r1,r2,r3):=by rw [if_pos rfl] at H;exact H
              clear H
              have H:=H1
              clear H1
              simp only [Option.some.injEq,Prod.mk.injEq] at H
              obtain ⟨rfl,rfl,rfl⟩:=H
              go_wp2
              go_ret3
              exact ⟨by rfl,by repeat (first|exact Drawn0.refl _|apply Drawn0.step)⟩
             ·
              replace c29:=Bool.eq_false_iff.mpr c29
              subst c29
              have H1:(if a0=16 then (some (true,true,true)) else (some (false,false,false)))=some (r1,r2,r3):=by rw [if_neg (show ¬(false=true) by decide)] at H;exact H
              clear H
              have H:=H1
              clear H1
              by_cases c30:a0=16
              ·
               rw [if_pos c30] at H
               have c30b0:(a0 == 16)=true:=beq_iff_eq.mpr c30
               have c30b1:(a0 != 16)=false:=bne_eq_false_iff_eq.mpr c30
               clear c30
               simp only [Option.some.injEq,Prod.mk.injEq] at H
               obtain ⟨rfl,rfl,rfl⟩:=H
               go_wp2
               go_ret3
               exact ⟨by rfl,by repeat (first|exact Drawn0.refl _|apply Drawn0.step)⟩
              ·
               rw [if_neg c30] at H
               have c30b0:(a0 == 16)=false:=beq_eq_false_iff_ne.mpr c30
               have c30b1:(a0 != 16)=true:=bne_iff_ne.mpr c30
               simp only [Option.some.injEq,Prod.mk.injEq] at H
               obtain ⟨rfl,rfl,rfl⟩:=H
               go_wp2
               go_ret3
               exact ⟨by rfl,by repeat (first|exact Drawn0.refl _|apply Drawn0.step)⟩
end Go.Proofs.Ytbnplhmmbnmagaa.All
namespace Go.Proofs.Ytbnplhmmbnmagaa.All
open Go.RowKit Go.Proofs.YtbnplhmmbnmagaaW.PrintWords Go.Proofs.YtbnplhmmbnmagaaW.PrintLast Go.Proofs.YtbnplhmmbnmagaaW.PrintMore
attribute [local go_sem] bZN bZL cZj cZh bZn bZm bZM bZK
attribute [local go_sem] Go.Proofs.YtbnplhmmbnmagaaX.binOp_leq Go.Proofs.YtbnplhmmbnmagaaX.binOp_geq Go.Proofs.YtbnplhmmbnmagaaX.binOp_gtr
def berthref20_sameTexts.f (k:Nat) (l0:List ByteArray) (l1:List ByteArray):Option (Bool):=(berthref20_LessTexts.f k l0 l1).bind fun t409=>(if t409=true then (some false) else ((berthref20_LessTexts.f k l1 l0).bind fun t410=>(some (!t410))))
theorem berthref20_sameTexts.calls (k:Nat) (A0:Option Addr) (c0:Nat) (l0:List ByteArray) (A1:Option Addr) (c1:Nat) (l1:List ByteArray) (r:Bool) (w:World) (hr0:Kd.C Kd.string w A0 l0.length l0) (hc0:l0.length≤c0) (hr1:Kd.C Kd.string w A1 l1.length l1) (hc1:l1.length≤c1) (h:berthref20_sameTexts.f k l0 l1=some r) :
 Calls Try.prog 33 #[.slice A0 l0.length c0,.slice A1 l1.length c1] w fun e w'=>e=.returned (.bool r)∧Drawn0 w w':=by
 have HR0:=Aside0.mk hr0
 have HC0:=Aside0.mk hc0
 clear hr0 hc0
 have HR1:=Aside0.mk hr1
 have HC1:=Aside0.mk hc1
 clear hr1 hc1
 have H:((berthref20_LessTexts.f k l0 l1).bind fun t409=>(if t409=true then (some false) else ((berthref20_LessTexts.f k l1 l0).bind fun t410=>(some (!t410)))))=some r:=h
 clear h
 replace H:=Option.bind_eq_some_iff.mp H
 obtain ⟨t409,A30,H⟩:=H
 replace H:(if t409=true then (some false) else ((berthref20_LessTexts.f k l1 l0).bind fun t410=>(some (!t410))))=some r:=H
 have A3:=Aside0.mk A30
 clear A30
 by_cases c4:t409=true
 ·
  subst c4
  have H1:(some false)=some r:=by rw [if_pos rfl] at H;exact H
  clear H
  have H:=H1
  clear H1
  obtain rfl:=Option.some.inj H
  go_enter Try.func33,Try.ntmps33
  go_wp2_with (((with_reducible refine aZj (f:=67) rfl ?_);refine aZN (some 7) rfl rfl Try.func67 (by kernel_rfl) rfl #[.slice A0 l0.length c0,.slice A1 l1.length c1] rfl (by (try simp only [List.map_toArray,List.map_cons,List.map_nil]);rfl) ?_;(with_reducible refine (berthref20_LessTexts.calls k _ _ l0 _ _ l1 true _ ?side1 ?side2 ?side3 ?side4 A3.out).mono ?_);(case side1=>repeat (exact HR0.out));(case side2=>exact HC0.out);(case side3=>repeat (exact HR1.out));(case side4=>exact HC1.out);rintro e w' ⟨rfl,⟨nd,rfl⟩⟩;refine ⟨_,rfl,?_⟩))
  go_ret
  exact ⟨by rfl,by repeat (first|exact Drawn0.refl _|apply Drawn0.step)⟩
 ·
  replace c4:=Bool.eq_false_iff.mpr c4
  subst c4
  have H1:((berthref20_LessTexts.f k l1 l0).bind fun t410=>(some (!t410)))=some r:=by rw [if_neg (show ¬(false=true) by decide)] at H;exact H
  clear H
  have H:=H1
  clear H1
  replace H:=Option.bind_eq_some_iff.mp H
  obtain ⟨t410,A50,H⟩:=H
  replace H:(some (!t410))=some r:=H
  have A5:=Aside0.mk A50
  clear A50
  obtain rfl:=Option.some.inj H
  go_enter Try.func33,Try.ntmps33
  go_wp2_with (first|((with_reducible refine aZj (f:=67) rfl ?_);refine aZN (some 7) rfl rfl Try.func67 (by kernel_rfl) rfl #[.slice A0 l0.length c0,.slice A1 l1.length c1] rfl (by (try simp only [List.map_toArray,List.map_cons,List.map_nil]);rfl) ?_;(with_reducible refine (berthref20_LessTexts.calls k _ _ l0 _ _ l1 false _ ?side1 ?side2 ?side3 ?side4 A3.out).mono ?_);(case side1=>repeat (exact HR0.out));(case side2=>exact HC0.out);(case side3=>repeat (exact HR1.out));(case side4=>exact HC1.out);rintro e w' ⟨rfl,⟨nd,rfl⟩⟩;refine ⟨_,rfl,?_⟩)|(go_at_call 67;(with_reducible refine (berthref20_LessTexts.calls k _ _ l1 _ _ l0 t410 _ ?side1 ?side2 ?side3 ?side4 A5.out).mono ?_);(case side1=>repeat (exact HR1.out));(case side2=>exact HC1.out);(case side3=>repeat (exact HR0.out));(case side4=>exact HC0.out);rintro e w' ⟨rfl,⟨nd,rfl⟩⟩))
  go_ret
  exact ⟨by rfl,by repeat (first|exact Drawn0.refl _|apply Drawn0.step)⟩
def berthref20_sameNums.f (k:Nat) (l0:List Int) (l1:List Int):Option (Bool):=(berthref20_LessNums.f k l0 l1).bind fun t411=>(if t411=true then (some false) else ((berthref20_LessNums.f k l1 l0).bind fun t412=>(some (!t412))))
theorem berthref20_sameNums.calls (k:Nat) (A0:Option Addr) (c0:Nat) (l0:List Int) (A1:Option Addr) (c1:Nat) (l1:List Int) (r:Bool) (w:World) (hr0:Kd.C (Kd.int .i64) w A0 l0.length l0) (hc0:l0.length≤c0) (hr1:Kd.C (Kd.int .i64) w A1 l1.length l1) (hc1:l1.length≤c1) (h:berthref20_sameNums.f k l0 l1=some r) :
 Calls Try.prog 34 #[.slice A0 l0.length c0,.slice A1 l1.length c1] w fun e w'=>e=.returned (.bool r)∧Drawn0 w w':=by
 have HR0:=Aside0.mk hr0
 have HC0:=Aside0.mk hc0
 clear hr0 hc0
 have HR1:=Aside0.mk hr1
 have HC1:=Aside0.mk hc1
 clear hr1 hc1
 have H:((berthref20_LessNums.f k l0 l1).bind fun t411=>(if t411=true then (some false) else ((berthref20_LessNums.f k l1 l0).bind fun t412=>(some (!t412)))))=some r:=h
 clear h
 replace H:=Option.bind_eq_some_iff.mp H
 obtain ⟨t411,A30,H⟩:=H
 replace H:(if t411=true then (some false) else ((berthref20_LessNums.f k l1 l0).bind fun t412=>(some (!t412))))=some r:=H
 have A3:=Aside0.mk A30
 clear A30
 by_cases c4:t411=true
 ·
  subst c4
  have H1:(some false)=some r:=by rw [if_pos rfl] at H;exact H
  clear H
  have H:=H1
  clear H1
  obtain rfl:=Option.some.inj H
  go_enter Try.func34,Try.ntmps34
  go_wp2_with (((with_reducible refine aZj (f:=68) rfl ?_);refine aZN (some 7) rfl rfl Try.func68 (by kernel_rfl) rfl #[.slice A0 l0.length c0,.slice A1 l1.length c1] rfl (by (try simp only [List.map_toArray,List.map_cons,List.map_nil]);rfl) ?_;(with_reducible refine (berthref20_LessNums.calls k _ _ l0 _ _ l1 true _ ?side1 ?side2 ?side3 ?side4 A3.out).mono ?_);(case side1=>repeat (exact HR0.out));(case side2=>exact HC0.out);(case side3=>repeat (exact HR1.out));(case side4=>exact HC1.out);rintro e w' ⟨rfl,⟨nd,rfl⟩⟩;refine ⟨_,rfl,?_⟩))
  go_ret
  exact ⟨by rfl,by repeat (first|exact Drawn0.refl _|apply Drawn0.step)⟩
 ·
  replace c4:=Bool.eq_false_iff.mpr c4
  subst c4
  have H1:((berthref20_LessNums.f k l1 l0).bind fun t412=>(some (!t412)))=some r:=by rw [if_neg (show ¬(false=true) by decide)] at H;exact H
  clear H
  have H:=H1
  clear H1
  replace H:=Option.bind_eq_some_iff.mp H
  obtain ⟨t412,A50,H⟩:=H
  replace H:(some (!t412))=some r:=H
  have A5:=Aside0.mk A50
  clear A50
  obtain rfl:=Option.some.inj H
  go_enter Try.func34,Try.ntmps34
  go_wp2_with (first|((with_reducible refine aZj (f:=68) rfl ?_);refine aZN (some 7) rfl rfl Try.func68 (by kernel_rfl) rfl #[.slice A0 l0.length c0,.slice A1 l1.length c1] rfl (by (try simp only [List.map_toArray,List.map_cons,List.map_nil]);rfl) ?_;(with_reducible refine (berthref20_LessNums.calls k _ _ l0 _ _ l1 false _ ?side1 ?side2 ?side3 ?side4 A3.out).mono ?_);(case side1=>repeat (exact HR0.out));(case side2=>exact HC0.out);(case side3=>repeat (exact HR1.out));(case side4=>exact HC1.out);rintro e w' ⟨rfl,⟨nd,rfl⟩⟩;refine ⟨_,rfl,?_⟩)|(go_at_call 68;(with_reducible refine (berthref20_LessNums.calls k _ _ l1 _ _ l0 t412 _ ?side1 ?side2 ?side3 ?side4 A5.out).mono ?_);(case side1=>repeat (exact HR1.out));(case side2=>exact HC1.out);(case side3=>repeat (exact HR0.out));(case side4=>exact HC0.out);rintro e w' ⟨rfl,⟨nd,rfl⟩⟩))
  go_ret
  exact ⟨by rfl,by repeat (first|exact Drawn0.refl _|apply Drawn0.step)⟩
end Go.Proofs.Ytbnplhmmbnmagaa.All
namespace Go.Proofs.Ytbnplhmmbnmagaa.All
open Go.RowKit Go.Proofs.YtbnplhmmbnmagaaW.PrintWords Go.Proofs.YtbnplhmmbnmagaaW.PrintLast Go.Proofs.YtbnplhmmbnmagaaW.PrintMore
attribute [local go_sem] bZN bZL cZj cZh bZn bZm bZM bZK
attribute [local go_sem] Go.Proofs.YtbnplhmmbnmagaaX.binOp_leq Go.Proofs.YtbnplhmmbnmagaaX.binOp_geq Go.Proofs.YtbnplhmmbnmagaaX.binOp_gtr
def B3 (u:Bool × Bool × Bool):Value:=.agg #[.bool u.1,.bool u.2.1,.bool u.2.2]
def bZG (op:Int):Bool × Bool × Bool :=
  if op=8∨op=9∨op=10∨op=11∨op=15∨op=27∨op=28∨op=29∨op=30∨op=35∨op=36 then (false,false,false) else if op=19∨op=21∨op=22∨op=23 then (false,true,false) else if op=12∨op=17 then (true,true,false) else if op=25 then (true,false,true) else if op=18∨op=20 then (false,true,true) else if op=16 then (true,true,true) else (true,false,false)
theorem uses.w8 (w:World):Calls Try.prog 51 #[.int .i64 8] w fun re w'=>re=.returned (B3 (false,false,false))∧Below w.heap.size w w':=by
 go_enter Try.func51,Try.ntmps51
 go_wp2
 refine bodyPost_ret (results_cell_row rfl _ _ w.heap.size _ _ _ _ rfl (heap_alloc_new w _) Try.underlying119 rfl rfl) rfl ?_
 exact ⟨rfl,by go_grown⟩
theorem uses.w9 (w:World):Calls Try.prog 51 #[.int .i64 9] w fun re w'=>re=.returned (B3 (false,false,false))∧Below w.heap.size w w':=by
 go_enter Try.func51,Try.ntmps51
 go_wp2
 refine bodyPost_ret (results_cell_row rfl _ _ w.heap.size _ _ _ _ rfl (heap_alloc_new w _) Try.underlying119 rfl rfl) rfl ?_
 exact ⟨rfl,by go_grown⟩
theorem uses.w10 (w:World):Calls Try.prog 51 #[.int .i64 10] w fun re w'=>re=.returned (B3 (false,false,false))∧Below w.heap.size w w':=by
 go_enter Try.func51,Try.ntmps51
 go_wp2
 refine bodyPost_ret (results_cell_row rfl _ _ w.heap.size _ _ _ _ rfl (heap_alloc_new w _) Try.underlying119 rfl rfl) rfl ?_
 exact ⟨rfl,by go_grown⟩
theorem uses.w11 (w:World):Calls Try.prog 51 #[.int .i64 11] w fun re w'=>re=.returned (B3 (false,false,false))∧Below w.heap.size w w':=by
 go_enter Try.func51,Try.ntmps51
 go_wp2
 refine bodyPost_ret (results_cell_row rfl _ _ w.heap.size _ _ _ _ rfl (heap_alloc_new w _) Try.underlying119 rfl rfl) rfl ?_
 exact ⟨rfl,by go_grown⟩
theorem uses.w15 (w:World):Calls Try.prog 51 #[.int .i64 15] w fun re w'=>re=.returned (B3 (false,false,false))∧Below w.heap.size w w':=by
 go_enter Try.func51,Try.ntmps51
 go_wp2
 refine bodyPost_ret (results_cell_row rfl _ _ w.heap.size _ _ _ _ rfl (heap_alloc_new w _) Try.underlying119 rfl rfl) rfl ?_
 exact ⟨rfl,by go_grown⟩
theorem uses.w27 (w:World):Calls Try.prog 51 #[.int .i64 27] w fun re w'=>re=.returned (B3 (false,false,false))∧Below w.heap.size w w':=by
 go_enter Try.func51,Try.ntmps51
 go_wp2
 refine bodyPost_ret (results_cell_row rfl _ _ w.heap.size _ _ _ _ rfl (heap_alloc_new w _) Try.underlying119 rfl rfl) rfl ?_
 exact ⟨rfl,by go_grown⟩
theorem uses.w28 (w:World):Calls Try.prog 51 #[.int .i64 28] w fun re w'=>re=.returned (B3 (false,false,false))∧Below w.heap.size w w':=by
 go_enter Try.func51,Try.ntmps51
 go_wp2
 refine bodyPost_ret (results_cell_row rfl _ _ w.heap.size _ _ _ _ rfl (heap_alloc_new w _) Try.underlying119 rfl rfl) rfl ?_
 exact ⟨rfl,by go_grown⟩
theorem uses.w29 (w:World):Calls Try.prog 51 #[.int .i64 29] w fun re w'=>re=.returned (B3 (false,false,false))∧Below w.heap.size w w':=by
 go_enter Try.func51,Try.ntmps51
 go_wp2
 refine bodyPost_ret (results_cell_row rfl _ _ w.heap.size _ _ _ _ rfl (heap_alloc_new w _) Try.underlying119 rfl rfl) rfl ?_
 exact ⟨rfl,by go_grown⟩
theorem uses.w30 (w:World):Calls Try.prog 51 #[.int .i64 30] w fun re w'=>re=.returned (B3 (false,false,false))∧Below w.heap.size w w':=by
 go_enter Try.func51,Try.ntmps51
 go_wp2
 refine bodyPost_ret (results_cell_row rfl _ _ w.heap.size _ _ _ _ rfl (heap_alloc_new w _) Try.underlying119 rfl rfl) rfl ?_
 exact ⟨rfl,by go_grown⟩
theorem uses.w35 (w:World):Calls Try.prog 51 #[.int .i64 35] w fun re w'=>re=.returned (B3 (false,false,false))∧Below w.heap.size w w':=by
 go_enter Try.func51,Try.ntmps51
 go_wp2
 refine bodyPost_ret (results_cell_row rfl _ _ w.heap.size _ _ _ _ rfl (heap_alloc_new w _) Try.underlying119 rfl rfl) rfl ?_
 exact ⟨rfl,by go_grown⟩
theorem uses.w36 (w:World):Calls Try.prog 51 #[.int .i64 36] w fun re w'=>re=.returned (B3 (false,false,false))∧Below w.heap.size w w':=by
 go_enter Try.func51,Try.ntmps51
 go_wp2
 refine bodyPost_ret (results_cell_row rfl _ _ w.heap.size _ _ _ _ rfl (heap_alloc_new w _) Try.underlying119 rfl rfl) rfl ?_
 exact ⟨rfl,by go_grown⟩
theorem uses.w19 (w:World):Calls Try.prog 51 #[.int .i64 19] w fun re w'=>re=.returned (B3 (false,true,false))∧Below w.heap.size w w':=by
 go_enter Try.func51,Try.ntmps51
 go_wp2
 refine bodyPost_ret (results_cell_row rfl _ _ w.heap.size _ _ _ _ rfl (heap_alloc_new w _) Try.underlying119 rfl rfl) rfl ?_
 exact ⟨rfl,by go_grown⟩
theorem uses.w21 (w:World):Calls Try.prog 51 #[.int .i64 21] w fun re w'=>re=.returned (B3 (false,true,false))∧Below w.heap.size w w':=by
 go_enter Try.func51,Try.ntmps51
 go_wp2
 refine bodyPost_ret (results_cell_row rfl _ _ w.heap.size _ _ _ _ rfl (heap_alloc_new w _) Try.underlying119 rfl rfl) rfl ?_
 exact ⟨rfl,by go_grown⟩
theorem uses.w22 (w:World):Calls Try.prog 51 #[.int .i64 22] w fun re w'=>re=.returned (B3 (false,true,false))∧Below w.heap.size w w':=by
 go_enter Try.func51,Try.ntmps51
 go_wp2
 refine bodyPost_ret (results_cell_row rfl _ _ w.heap.size _ _ _ _ rfl (heap_alloc_new w _) Try.underlying119 rfl rfl) rfl ?_
 exact ⟨rfl,by go_grown⟩
theorem uses.w23 (w:World):Calls Try.prog 51 #[.int .i64 23] w fun re w'=>re=.returned (B3 (false,true,false))∧Below w.heap.size w w':=by
 go_enter Try.func51,Try.ntmps51
 go_wp2
 refine bodyPost_ret (results_cell_row rfl _ _ w.heap.size _ _ _ _ rfl (heap_alloc_new w _) Try.underlying119 rfl rfl) rfl ?_
 exact ⟨rfl,by go_grown⟩
theorem uses.w12 (w:World):Calls Try.prog 51 #[.int .i64 12] w fun re w'=>re=.returned (B3 (true,true,false))∧Below w.heap.size w w':=by
 go_enter Try.func51,Try.ntmps51
 go_wp2
 refine bodyPost_ret (results_cell_row rfl _ _ w.heap.size _ _ _ _ rfl (heap_alloc_new w _) Try.underlying119 rfl rfl) rfl ?_
 exact ⟨rfl,by go_grown⟩
theorem uses.w17 (w:World):Calls Try.prog 51 #[.int .i64 17] w fun re w'=>re=.returned (B3 (true,true,false))∧Below w.heap.size w w':=by
 go_enter Try.func51,Try.ntmps51
 go_wp2
 refine bodyPost_ret (results_cell_row rfl _ _ w.heap.size _ _ _ _ rfl (heap_alloc_new w _) Try.underlying119 rfl rfl) rfl ?_
 exact ⟨rfl,by go_grown⟩
theorem uses.w25 (w:World):Calls Try.prog 51 #[.int .i64 25] w fun re w'=>re=.returned (B3 (true,false,true))∧Below w.heap.size w w':=by
 go_enter Try.func51,Try.ntmps51
 go_wp2
 refine bodyPost_ret (results_cell_row rfl _ _ w.heap.size _ _ _ _ rfl (heap_alloc_new w _) Try.underlying119 rfl rfl) rfl ?_
 exact ⟨rfl,by go_grown⟩
theorem uses.w18 (w:World):Calls Try.prog 51 #[.int .i64 18] w fun re w'=>re=.returned (B3 (false,true,true))∧Below w.heap.size w w':=by
 go_enter Try.func51,Try.ntmps51
 go_wp2
 refine bodyPost_ret (results_cell_row rfl _ _ w.heap.size _ _ _ _ rfl (heap_alloc_new w _) Try.underlying119 rfl rfl) rfl ?_
 exact ⟨rfl,by go_grown⟩
theorem uses.w20 (w:World):Calls Try.prog 51 #[.int .i64 20] w fun re w'=>re=.returned (B3 (false,true,true))∧Below w.heap.size w w':=by
 go_enter Try.func51,Try.ntmps51
 go_wp2
 refine bodyPost_ret (results_cell_row rfl _ _ w.heap.size _ _ _ _ rfl (heap_alloc_new w _) Try.underlying119 rfl rfl) rfl ?_
 exact ⟨rfl,by go_grown⟩
theorem uses.w16 (w:World):Calls Try.prog 51 #[.int .i64 16] w fun re w'=>re=.returned (B3 (true,true,true))∧Below w.heap.size w w':=by
 go_enter Try.func51,Try.ntmps51
 go_wp2
 refine bodyPost_ret (results_cell_row rfl _ _ w.heap.size _ _ _ _ rfl (heap_alloc_new w _) Try.underlying119 rfl rfl) rfl ?_
 exact ⟨rfl,by go_grown⟩
theorem uses.wx (op:Int) (h8:op≠8) (h9:op≠9) (h10:op≠10) (h11:op≠11) (h15:op≠15) (h27:op≠27) (h28:op≠28) (h29:op≠29) (h30:op≠30) (h35:op≠35) (h36:op≠36) (h19:op≠19) (h21:op≠21) (h22:op≠22) (h23:op≠23) (h12:op≠12) (h17:op≠17) (h25:op≠25) (h18:op≠18) (h20:op≠20) (h16:op≠16) (w:World):Calls Try.prog 51 #[.int .i64 op] w fun re w'=>re=.returned (B3 (true,false,false))∧Below w.heap.size w w':=by
 go_enter Try.func51,Try.ntmps51
 go_wp2
 refine bodyPost_ret (results_cell_row rfl _ _ w.heap.size _ _ _ _ rfl (heap_alloc_new w _) Try.underlying119 rfl rfl) rfl ?_
 exact ⟨rfl,by go_grown⟩
theorem uses.walk (op:Int) (w:World):Calls Try.prog 51 #[.int .i64 op] w fun re w'=>re=.returned (B3 (bZG op))∧Below w.heap.size w w':=by
 by_cases h8:op=8
 · subst h8;exact uses.w8 w
 by_cases h9:op=9
 · subst h9;exact uses.w9 w
 by_cases h10:op=10
 · subst h10;exact uses.w10 w
 by_cases h11:op=11
 · subst h11;exact uses.w11 w
 by_cases h15:op=15
 · subst h15;exact uses.w15 w
 by_cases h27:op=27
 · subst h27;exact uses.w27 w
 by_cases h28:op=28
 · subst h28;exact uses.w28 w
 by_cases h29:op=29
 · subst h29;exact uses.w29 w
 by_cases h30:op=30
 · subst h30;exact uses.w30 w
 by_cases h35:op=35
 · subst h35;exact uses.w35 w
 by_cases h36:op=36
 · subst h36;exact uses.w36 w
 by_cases h19:op=19
 · subst h19;exact uses.w19 w
 by_cases h21:op=21
 · subst h21;exact uses.w21 w
 by_cases h22:op=22
 · subst h22;exact uses.w22 w
 by_cases h23:op=23
 · subst h23;exact uses.w23 w
 by_cases h12:op=12
 · subst h12;exact uses.w12 w
 by_cases h17:op=17
 · subst h17;exact uses.w17 w
 by_cases h25:op=25
 · subst h25;exact uses.w25 w
 by_cases h18:op=18
 · subst h18;exact uses.w18 w
 by_cases h20:op=20
 · subst h20;exact uses.w20 w
 by_cases h16:op=16
 · subst h16;exact uses.w16 w
 have e:bZG op=(true,false,false):=by unfold bZG;rw [if_neg (by omega),if_neg (by omega),if_neg (by omega),if_neg (by omega),if_neg (by omega),if_neg (by omega)]
 rw [e]
 exact uses.wx op h8 h9 h10 h11 h15 h27 h28 h29 h30 h35 h36 h19 h21 h22 h23 h12 h17 h25 h18 h20 h16 w
section
variable (x y z:Int) (w:World)
theorem inf3a:(Try.prog.info? 3).map (fun i=>i.size)=some 1:=by kernel_rfl
theorem inf3:∃ i,Try.prog.info? 3=some i∧i.size=1:=Option.map_eq_some_iff.1 inf3a
theorem ix77_0:(Instr.index 121 (.agg #[.int .i64 x,.int .i64 y,.int .i64 z]) (.int .i64 0)).run Try.prog w=.ok (.int .i64 x) w:=by
  obtain ⟨i,h1,h2⟩:=inf3
  simp [Instr.index,run_underlying Try.underlying121,asIntOf,part,sizeOf,typeInfo,h1,h2,isAgg,run_underlying Try.underlying3,go_sem]
theorem ix77_1:(Instr.index 121 (.agg #[.int .i64 x,.int .i64 y,.int .i64 z]) (.int .i64 1)).run Try.prog w=.ok (.int .i64 y) w:=by
  obtain ⟨i,h1,h2⟩:=inf3
  simp [Instr.index,run_underlying Try.underlying121,asIntOf,part,sizeOf,typeInfo,h1,h2,isAgg,run_underlying Try.underlying3,go_sem]
theorem ix77_2:(Instr.index 121 (.agg #[.int .i64 x,.int .i64 y,.int .i64 z]) (.int .i64 2)).run Try.prog w=.ok (.int .i64 z) w:=by
  obtain ⟨i,h1,h2⟩:=inf3
  simp [Instr.index,run_underlying Try.underlying121,asIntOf,part,sizeOf,typeInfo,h1,h2,isAgg,run_underlying Try.underlying3,go_sem]
end
attribute [local go_sem] ix77_0 ix77_1 ix77_2
end Go.Proofs.Ytbnplhmmbnmagaa.All
namespace Go.Proofs.Ytbnplhmmbnmagaa.All
open Go.RowKit Go.Proofs.YtbnplhmmbnmagaaW.PrintWords Go.Proofs.YtbnplhmmbnmagaaW.PrintLast Go.Proofs.YtbnplhmmbnmagaaW.PrintMore
attribute [local go_sem] bZN bZL cZj cZh bZn bZm bZM bZK
attribute [local go_sem] Go.Proofs.YtbnplhmmbnmagaaX.binOp_leq Go.Proofs.YtbnplhmmbnmagaaX.binOp_geq Go.Proofs.YtbnplhmmbnmagaaX.binOp_gtr
mutual
def berthref21_Effect.j0:Nat→Int→Int→Bool→Option (List Int × Int)
  | 0,_,_,_=>none
  | k+1,x1,x6,x7=>if x7=true then (some (([]:List Int),wrap64 (1+x1))) else (if x6=3 then (berthref21_Effect.j1 k x1 x6 (x6 == 3)) else (if x6=7 then (berthref21_Effect.j1 k x1 x6 (x6 == 7)) else (berthref21_Effect.j1 k x1 x6 (x6 == 8))))
def berthref21_Effect.j1:Nat→Int→Int→Bool→Option (List Int × Int)
  | 0,_,_,_=>none
  | k+1,x1,x6,x12=>if x12=true then (some (([]:List Int),3)) else (if x6=4 then (berthref21_Effect.j2 k x1 x6 (x6 == 4)) else (berthref21_Effect.j2 k x1 x6 (x6 == 9)))
def berthref21_Effect.j2:Nat→Int→Int→Bool→Option (List Int × Int)
  | 0,_,_,_=>none
  | k+1,x1,x6,x16=>if x16=true then (some (([]:List Int),5)) else (if x6=5 then (some (([]:List Int),4)) else (if x6=6 then (some (([]:List Int),6)) else (if x6=10 then (some ((([3]:List Int)),5)) else (if x6=11 then (some ((([3]:List Int)),4)) else (if x6=12 then (berthref21_Effect.j3 k x1 x6 (x6 == 12)) else (if x6=13 then (berthref21_Effect.j3 k x1 x6 (x6 == 13)) else (berthref21_Effect.j3 k x1 x6 (x6 == 14))))))))
def berthref21_Effect.j3:Nat→Int→Int→Bool→Option (List Int × Int)
  | 0,_,_,_=>none
  | k+1,x1,x6,x29=>if x29=true then (some ((([5]:List Int)),wrap64 (1+x1))) else (if x6=15 then (some ((([5]:List Int)),1)) else (if x6=16 then (some ((([4]:List Int)),wrap64 (1+x1))) else (if x6=17 then (some ((([6]:List Int)),wrap64 (1+x1))) else (if x6=18 then (some ((([4]:List Int)),1)) else (if x6=19 then (some ((([6]:List Int)),1)) else (if x6=20 then (some ((([2,4]:List Int)),1)) else (if x6=21 then (some ((([2,6]:List Int)),1)) else (if x6=22 then (some ((([2]:List Int)),1)) else (if x6=23 then (some (([]:List Int),1)) else (if x6=24 then (some ((([3,5]:List Int)),wrap64 (1+x1))) else (if x6=25 then (some ((([4,4]:List Int)),wrap64 (1+x1))) else (if x6=26 then (some ((([4,6]:List Int)),wrap64 (1+x1))) else (if x6=36 then (some ((([1]:List Int)),0)) else (some (([]:List Int),0)))))))))))))))
end
def berthref21_Effect.f (k:Nat) (a0:Int) (a1:Int):Option (List Int × Int):=if a0=1 then (berthref21_Effect.j0 k a1 a0 (a0 == 1)) else (berthref21_Effect.j0 k a1 a0 (a0 == 2))
def berthref21_bitmap.f (a0:Int):Option (Bool):=if a0=1 then (some true) else (some (a0 == 2))
theorem berthref21_bitmap.calls (a0:Int) (r:Bool) (w:World) (h:berthref21_bitmap.f a0=some r) :
 Calls Try.prog 108 #[.int .i64 a0] w fun e w'=>e=.returned (.bool r)∧Drawn0 w w':=by
 have H:(if a0=1 then (some true) else (some (a0 == 2)))=some r:=h
 clear h
 by_cases c2:a0=1
 ·
  rw [if_pos c2] at H
  have c2b0:(a0 == 1)=true:=beq_iff_eq.mpr c2
  have c2b1:(a0 != 1)=false:=bne_eq_false_iff_eq.mpr c2
  clear c2
  obtain rfl:=Option.some.inj H
  go_enter Try.func108,Try.ntmps108
  go_wp2
  go_ret
  exact ⟨by rfl,by repeat (exact Drawn0.refl _)⟩
 ·
  rw [if_neg c2] at H
  have c2b0:(a0 == 1)=false:=beq_eq_false_iff_ne.mpr c2
  have c2b1:(a0 != 1)=true:=bne_iff_ne.mpr c2
  obtain rfl:=Option.some.inj H
  go_enter Try.func108,Try.ntmps108
  go_wp2
  go_ret
  exact ⟨by rfl,by repeat (exact Drawn0.refl _)⟩
end Go.Proofs.Ytbnplhmmbnmagaa.All
namespace Go.Proofs.Ytbnplhmmbnmagaa.All
open Go.RowKit Go.Proofs.YtbnplhmmbnmagaaW.PrintWords Go.Proofs.YtbnplhmmbnmagaaW.PrintLast Go.Proofs.YtbnplhmmbnmagaaW.PrintMore
attribute [local go_sem] bZN bZL cZj cZh bZn bZm bZM bZK
attribute [local go_sem] Go.Proofs.YtbnplhmmbnmagaaX.binOp_leq Go.Proofs.YtbnplhmmbnmagaaX.binOp_geq Go.Proofs.YtbnplhmmbnmagaaX.binOp_gtr
mutual
def berthref21_Operands.j0:Nat→Int→Bool→Option (Int × Int × Int)
  | 0,_,_=>none
  | k+1,x5,x6=>if x6=true then (some (1,0,0)) else (if x5=3 then (berthref21_Operands.j1 k x5 (x5 == 3)) else (berthref21_Operands.j1 k x5 (x5 == 7)))
def berthref21_Operands.j1:Nat→Int→Bool→Option (Int × Int × Int)
  | 0,_,_=>none
  | k+1,x5,x13=>if x13=true then (some (2,0,0)) else (if x5=4 then (some (3,0,0)) else (if x5=5 then (some (4,0,0)) else (if x5=6 then (some (5,0,0)) else (if x5=12 then (berthref21_Operands.j2 k x5 (x5 == 12)) else (berthref21_Operands.j2 k x5 (x5 == 17))))))
def berthref21_Operands.j2:Nat→Int→Bool→Option (Int × Int × Int)
  | 0,_,_=>none
  | k+1,x5,x22=>if x22=true then (some (1,2,0)) else (if x5=16 then (some (1,2,8)) else (if x5=18 then (berthref21_Operands.j3 k x5 (x5 == 18)) else (berthref21_Operands.j3 k x5 (x5 == 20))))
def berthref21_Operands.j3:Nat→Int→Bool→Option (Int × Int × Int)
  | 0,_,_=>none
  | k+1,x5,x27=>if x27=true then (some (0,2,8)) else (if x5=19 then (berthref21_Operands.j4 k x5 (x5 == 19)) else (if x5=21 then (berthref21_Operands.j4 k x5 (x5 == 21)) else (if x5=22 then (berthref21_Operands.j4 k x5 (x5 == 22)) else (berthref21_Operands.j4 k x5 (x5 == 23)))))
def berthref21_Operands.j4:Nat→Int→Bool→Option (Int × Int × Int)
  | 0,_,_=>none
  | k+1,x5,x30=>if x30=true then (some (0,2,0)) else (if x5=25 then (some (1,0,8)) else (if x5=31 then (berthref21_Operands.j5 k x5 (x5 == 31)) else (berthref21_Operands.j5 k x5 (x5 == 32))))
def berthref21_Operands.j5:Nat→Int→Bool→Option (Int × Int × Int)
  | 0,_,_=>none
  | k+1,x5,x37=>if x37=true then (some (6,0,0)) else (if x5=33 then (some (7,0,0)) else (if x5=34 then (some (7,0,0)) else (some (0,0,0))))
end
def berthref21_Operands.f (k:Nat) (a0:Int):Option (Int × Int × Int):=if a0=1 then (berthref21_Operands.j0 k a0 (a0 == 1)) else (if a0=2 then (berthref21_Operands.j0 k a0 (a0 == 2)) else (if a0=13 then (berthref21_Operands.j0 k a0 (a0 == 13)) else (if a0=14 then (berthref21_Operands.j0 k a0 (a0 == 14)) else (if a0=24 then (berthref21_Operands.j0 k a0 (a0 == 24)) else (berthref21_Operands.j0 k a0 (a0 == 26))))))
theorem berthref21_Operands.mono_l:∀ k,(∀ y0 y1,LeO (berthref21_Operands.j0 k y0 y1) (berthref21_Operands.j0 (k+1) y0 y1))∧(∀ y0 y1,LeO (berthref21_Operands.j1 k y0 y1) (berthref21_Operands.j1 (k+1) y0 y1))∧(∀ y0 y1,LeO (berthref21_Operands.j2 k y0 y1) (berthref21_Operands.j2 (k+1) y0 y1))∧(∀ y0 y1,LeO (berthref21_Operands.j3 k y0 y1) (berthref21_Operands.j3 (k+1) y0 y1))∧(∀ y0 y1,LeO (berthref21_Operands.j4 k y0 y1) (berthref21_Operands.j4 (k+1) y0 y1))∧(∀ y0 y1,LeO (berthref21_Operands.j5 k y0 y1) (berthref21_Operands.j5 (k+1) y0 y1))
  | 0=>⟨fun _ _ r h=>by simp [berthref21_Operands.j0] at h,fun _ _ r h=>by simp [berthref21_Operands.j1] at h,fun _ _ r h=>by simp [berthref21_Operands.j2] at h,fun _ _ r h=>by simp [berthref21_Operands.j3] at h,fun _ _ r h=>by simp [berthref21_Operands.j4] at h,fun _ _ r h=>by simp [berthref21_Operands.j5] at h⟩
  | k+1=>by
    obtain ⟨ih0,ih1,ih2,ih3,ih4,ih5⟩:=berthref21_Operands.mono_l k
    refine ⟨?_,?_,?_,?_,?_,?_⟩
    · intro y0 y1
      unfold berthref21_Operands.j0
      repeat' first|(with_reducible exact ih1 _ _)|(with_reducible exact LeO.refl _)|(with_reducible refine LeO.ite ?_ ?_)
    · intro y0 y1
      unfold berthref21_Operands.j1
      repeat' first|(with_reducible exact ih2 _ _)|(with_reducible exact LeO.refl _)|(with_reducible refine LeO.ite ?_ ?_)
    · intro y0 y1
      unfold berthref21_Operands.j2
      repeat' first|(with_reducible exact ih3 _ _)|(with_reducible exact LeO.refl _)|(with_reducible refine LeO.ite ?_ ?_)
    · intro y0 y1
      unfold berthref21_Operands.j3
      repeat' first|(with_reducible exact ih4 _ _)|(with_reducible exact LeO.refl _)|(with_reducible refine LeO.ite ?_ ?_)
    · intro y0 y1
      unfold berthref21_Operands.j4
      repeat' first|(with_reducible exact ih5 _ _)|(with_reducible exact LeO.refl _)|(with_reducible refine LeO.ite ?_ ?_)
    · intro y0 y1
      unfold berthref21_Operands.j5
      repeat' (with_reducible exact LeO.refl _)
theorem berthref21_Operands.mono:∀ a0 k,LeO (berthref21_Operands.f k a0) (berthref21_Operands.f (k+1) a0):=by
  intro a0 k
  obtain ⟨ih0,ih1,ih2,ih3,ih4,ih5⟩:=berthref21_Operands.mono_l k
  unfold berthref21_Operands.f
  repeat' first|(with_reducible exact ih0 _ _)|(with_reducible refine LeO.ite ?_ ?_)
end Go.Proofs.Ytbnplhmmbnmagaa.All
namespace Go.Proofs.Ytbnplhmmbnmagaa.All
open Go.RowKit Go.Proofs.YtbnplhmmbnmagaaW.PrintWords Go.Proofs.YtbnplhmmbnmagaaW.PrintLast Go.Proofs.YtbnplhmmbnmagaaW.PrintMore
attribute [local go_sem] bZN bZL cZj cZh bZn bZm bZM bZK
attribute [local go_sem] Go.Proofs.YtbnplhmmbnmagaaX.binOp_leq Go.Proofs.YtbnplhmmbnmagaaX.binOp_geq Go.Proofs.YtbnplhmmbnmagaaX.binOp_gtr
def berthref21_sameInts.l0:Nat→List Int→List Int→Int→Option (Bool)
  | 0,_,_,_=>none
  | k+1,x0,x1,x5=>if x5<(x0.length:Int) then (if 0≤x5 then (if x5<(x1.length:Int) then (if (rd x0 x5)=(rd x1 x5) then (berthref21_sameInts.l0 k x0 x1 (wrap64 (x5+1))) else (some false)) else (none)) else (none)) else (some true)
def berthref21_sameInts.f (k:Nat) (l0:List Int) (l1:List Int):Option (Bool):=if (l0.length:Int)=(l1.length:Int) then (berthref21_sameInts.l0 k l0 l1 0) else (some false)
theorem berthref21_sameInts.calls (k:Nat) (A0:Option Addr) (c0:Nat) (l0:List Int) (A1:Option Addr) (c1:Nat) (l1:List Int) (r:Bool) (w:World) (hr0:Kd.C (Kd.int .i64) w A0 l0.length l0) (hc0:l0.length≤c0) (hr1:Kd.C (Kd.int .i64) w A1 l1.length l1) (hc1:l1.length≤c1) (h:berthref21_sameInts.f k l0 l1=some r) :
 Calls Try.prog 57 #[.slice A0 l0.length c0,.slice A1 l1.length c1] w fun e w'=>e=.returned (.bool r)∧Drawn0 w w':=by
 have HR0:=Aside0.mk hr0
 have HC0:=Aside0.mk hc0
 clear hr0 hc0
 have HR1:=Aside0.mk hr1
 have HC1:=Aside0.mk hc1
 clear hr1 hc1
 have H:(if (l0.length:Int)=(l1.length:Int) then (berthref21_sameInts.l0 k l0 l1 0) else (some false))=some r:=h
 clear h
 by_cases c3:(l0.length:Int)=(l1.length:Int)
 ·
  rw [if_pos c3] at H
  have c3b0:((l0.length:Int) == (l1.length:Int))=true:=beq_iff_eq.mpr c3
  have c3b1:((l0.length:Int) != (l1.length:Int))=false:=bne_eq_false_iff_eq.mpr c3
  have c3b2:(l0.length == l1.length)=true:=by (simp at c3 ⊢;omega)
  clear c3
  have H':=Aside0.mk H
  clear H
  go_enter Try.func57,Try.ntmps57
  go_wp2
  repeat (go_quiet (fail);try go_wp2)
  go_loopg [5] k (fun kq v5 w'=>∃ (x5_1:Int),v5=.int .i64 x5_1∧Aside0 (berthref21_sameInts.l0 kq l0 l1 x5_1=some r)∧Aside0 (kq≤k)∧Drawn0 w w')
  case atStart=>exact ⟨(0),(by rfl),H',⟨Nat.le_refl _⟩,by repeat (exact Drawn0.refl _)⟩
  case round =>
   clear H'
   try clear c3b0;try clear c3b1;try clear c3b2
   obtain ⟨x5_1,rfl,HA,HK1,⟨m1,rfl⟩⟩:=hrel
   cases gk with
   | zero=>exact absurd HA.out (by simp [berthref21_sameInts.l0])
   | succ k1 =>
    have H:=HA.out
    clear HA
    simp only [berthref21_sameInts.l0] at H
    by_cases c4:x5_1<(l0.length:Int)
    ·
     rw [if_pos c4] at H
     have c4b0:decide (x5_1<(l0.length:Int))=true:=decide_eq_true c4
     clear c4
     by_cases c5:0≤x5_1
     ·
      rw [if_pos c5] at H
      have c5b0:decide (0≤x5_1)=true:=decide_eq_true c5
      clear c5
      by_cases c6:x5_1<(l1.length:Int)
      ·
       rw [if_pos c6] at H
       have c6b0:decide (x5_1<(l1.length:Int))=true:=decide_eq_true c6
       clear c6
       by_cases c7:(rd l0 x5_1)=(rd l1 x5_1)
       ·
        rw [if_pos c7] at H
        have c7b0:((rd l0 x5_1) == (rd l1 x5_1))=true:=beq_iff_eq.mpr c7
        have c7b1:((rd l0 x5_1) != (rd l1 x5_1))=false:=bne_eq_false_iff_eq.mpr c7
        clear c7
        have H':=Aside0.mk H
        clear H
        have p175:0≤(x5_1:Int):=of_decide_eq_true (by (with_reducible assumption))
        have q175:x5_1<(l0.length:Int):=of_decide_eq_true (by (with_reducible assumption))
        obtain ⟨ad175,e175,hx175_0⟩:=Kd.at_int HR0.out x5_1 p175 q175
        cases e175
        replace p175:=eq_true p175
        replace q175:=eq_true q175
        have p176:0≤(x5_1:Int):=of_decide_eq_true (by (with_reducible assumption))
        have q176:x5_1<(l1.length:Int):=of_decide_eq_true (by (with_reducible assumption))
        obtain ⟨ad176,e176,hx176_0⟩:=Kd.at_int HR1.out x5_1 p176 q176
        cases e176
        replace p176:=eq_true p176
        replace q176:=eq_true q176
        go_wp2
        repeat (go_quiet (fail);try go_wp2)
        go_roundg k1
        case measure=>have:=HK1.out;omega
        case rel=>exact ⟨(wrap64 (x5_1+1)),(by rfl),H',⟨by have:=HK1.out;omega⟩,by repeat (first|exact Drawn0.refl _|apply Drawn0.step)⟩
       ·
        rw [if_neg c7] at H
        have c7b0:((rd l0 x5_1) == (rd l1 x5_1))=false:=beq_eq_false_iff_ne.mpr c7
        have c7b1:((rd l0 x5_1) != (rd l1 x5_1))=true:=bne_iff_ne.mpr c7
        obtain rfl:=Option.some.inj H
        have p175:0≤(x5_1:Int):=of_decide_eq_true (by (with_reducible assumption))
        have q175:x5_1<(l0.length:Int):=of_decide_eq_true (by (with_reducible assumption))
        obtain ⟨ad175,e175,hx175_0⟩:=Kd.at_int HR0.out x5_1 p175 q175
        cases e175
        replace p175:=eq_true p175
        replace q175:=eq_true q175
        have p176:0≤(x5_1:Int):=of_decide_eq_true (by (with_reducible assumption))
        have q176:x5_1<(l1.length:Int):=of_decide_eq_true (by (with_reducible assumption))
        obtain ⟨ad176,e176,hx176_0⟩:=Kd.at_int HR1.out x5_1 p176 q176
        cases e176
        replace p176:=eq_true p176
        replace q176:=eq_true q176
        go_wp2
        repeat (go_quiet (fail);try go_wp2)
        go_ret
        exact ⟨by rfl,by repeat (first|exact Drawn0.refl _|apply Drawn0.step)⟩
      ·
       rw [if_neg c6] at H
       exact absurd H (by simp)
     ·
      rw [if_neg c5] at H
      exact absurd H (by simp)
    ·
     rw [if_neg c4] at H
     have c4b0:decide (x5_1<(l0.length:Int))=false:=decide_eq_false c4
     clear c4
     obtain rfl:=Option.some.inj H
     go_wp2
     repeat (go_quiet (fail);try go_wp2)
     go_ret
     exact ⟨by rfl,by repeat (first|exact Drawn0.refl _|apply Drawn0.step)⟩
 ·
  rw [if_neg c3] at H
  have c3b0:((l0.length:Int) == (l1.length:Int))=false:=beq_eq_false_iff_ne.mpr c3
  have c3b1:((l0.length:Int) != (l1.length:Int))=true:=bne_iff_ne.mpr c3
  have c3b2:(l0.length == l1.length)=false:=by (simp at c3 ⊢;omega)
  obtain rfl:=Option.some.inj H
  go_enter Try.func57,Try.ntmps57
  go_wp2
  repeat (go_quiet (fail);try go_wp2)
  go_ret
  exact ⟨by rfl,by repeat (exact Drawn0.refl _)⟩
end Go.Proofs.Ytbnplhmmbnmagaa.All
namespace Go.Proofs.Ytbnplhmmbnmagaa.All
open Go.RowKit Go.Proofs.YtbnplhmmbnmagaaW.PrintWords Go.Proofs.YtbnplhmmbnmagaaW.PrintLast Go.Proofs.YtbnplhmmbnmagaaW.PrintMore
structure S28 where
  f0:(List ByteArray)
  f1:(List Int)
  f2:(List (List ByteArray))
  f3:(List (List Int))
  f4:(List S66)
  f5:Int
  f6:Int
def k28:Kd S28:=Kd.iso (Kd.pair (Kd.slice 9 Kd.string) (Kd.pair (Kd.slice 3 (Kd.int .i64)) (Kd.pair (Kd.slice 22 (Kd.slice 9 Kd.string)) (Kd.pair (Kd.slice 23 (Kd.slice 3 (Kd.int .i64))) (Kd.pair (Kd.slice 66 k66) (Kd.pair (Kd.int .i64) (Kd.int .i64))))))) (fun x:S28=>(x.f0,x.f1,x.f2,x.f3,x.f4,x.f5,x.f6))
end Go.Proofs.Ytbnplhmmbnmagaa.All
