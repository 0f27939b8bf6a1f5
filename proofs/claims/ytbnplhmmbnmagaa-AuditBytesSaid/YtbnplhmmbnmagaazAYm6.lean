/- A part of the proof of AuditBytes: walks written by a program of this session. -/
import Derived.Test.YtbnplhmmbnmagaazAYm2
import Derived.Test.YtbnplhmmbnmagaazAYm4
import Derived.Test.YtbnplhmmbnmagaazAYm5
set_option maxHeartbeats 4000000
set_option maxRecDepth 100000
set_option linter.unusedVariables false
set_option linter.unusedSimpArgs false
namespace Go.Proofs.Ytbnplhmmbnmagaa.All
open Go.RowKit Go.Proofs.YtbnplhmmbnmagaaW.PrintWords Go.Proofs.YtbnplhmmbnmagaaW.PrintLast Go.Proofs.YtbnplhmmbnmagaaW.PrintMore
attribute [local go_sem] bZn bZl bZR bZQ aZ6 aZ5 bZm bZk
attribute [local go_sem] Go.Proofs.YtbnplhmmbnmagaaX.binOp_leq Go.Proofs.YtbnplhmmbnmagaaX.binOp_geq Go.Proofs.YtbnplhmmbnmagaaX.binOp_gtr
mutual
def berthref20_LessTexts.l0:Nat→List ByteArray→List ByteArray→Int→Option (Bool)
  | 0,_,_,_=>none
  | k+1,x0,x1,x5=>if x5<(x0.length:Int) then (berthref20_LessTexts.j1 k x0 x1 x5 (decide (x5<(x1.length:Int)))) else (berthref20_LessTexts.j1 k x0 x1 x5 false)
def berthref20_LessTexts.j1:Nat→List ByteArray→List ByteArray→Int→Bool→Option (Bool)
  | 0,_,_,_,_=>none
  | k+1,x0,x1,x5,x15=>if x15=true then (if 0≤x5 then (if x5<(x0.length:Int) then (if x5<(x1.length:Int) then (if (rdOf ByteArray.empty x0 x5).toList=(rdOf ByteArray.empty x1 x5).toList then (berthref20_LessTexts.l0 k x0 x1 (wrap64 (x5+1))) else (some (Op.bytesLess ((rdOf ByteArray.empty x0 x5).toList) ((rdOf ByteArray.empty x1 x5).toList)))) else (none)) else (none)) else (none)) else (some (decide ((x0.length:Int)<(x1.length:Int))))
end
def berthref20_LessTexts.f (k:Nat) (l0:List ByteArray) (l1:List ByteArray):Option (Bool):=berthref20_LessTexts.l0 k l0 l1 0
theorem berthref20_LessTexts.calls (k:Nat) (A0:Option Addr) (c0:Nat) (l0:List ByteArray) (A1:Option Addr) (c1:Nat) (l1:List ByteArray) (r:Bool) (w:World) (hr0:Kd.C Kd.string w A0 l0.length l0) (hc0:l0.length≤c0) (hr1:Kd.C Kd.string w A1 l1.length l1) (hc1:l1.length≤c1) (h:berthref20_LessTexts.f k l0 l1=some r) :
 Calls Try.prog 67 #[.slice A0 l0.length c0,.slice A1 l1.length c1] w fun e w'=>e=.returned (.bool r)∧Drawn0 w w':=by
 have HR0:=Aside0.mk hr0
 have HC0:=Aside0.mk hc0
 clear hr0 hc0
 have HR1:=Aside0.mk hr1
 have HC1:=Aside0.mk hc1
 clear hr1 hc1
 have H:(berthref20_LessTexts.l0 k l0 l1 0)=some r:=h
 clear h
 have H':=Aside0.mk H
 clear H
 go_enter Try.func67,Try.ntmps67
 go_wp2
 repeat (go_quiet (fail);try go_wp2)
 go_loopg [5] k (fun kq v5 w'=>∃ (x5_1:Int),v5=.int .i64 x5_1∧Aside0 (berthref20_LessTexts.l0 kq l0 l1 x5_1=some r)∧Aside0 (kq≤k)∧Drawn0 w w')
 case atStart=>exact ⟨(0),(by rfl),H',⟨Nat.le_refl _⟩,by repeat (exact Drawn0.refl _)⟩
 case round =>
  clear H'
  obtain ⟨x5_1,rfl,HA,HK1,⟨m1,rfl⟩⟩:=hrel
  cases gk with
  | zero=>exact absurd HA.out (by simp [berthref20_LessTexts.l0])
  | succ k1 =>
   have H:=HA.out
   clear HA
   simp only [berthref20_LessTexts.l0] at H
   have HC3:=Aside0.mk H
   clear H
   go_upto_region 2 with (fail)
   repeat (go_quiet (fail);go_upto_region 2 with (fail))
   go_cut [15] (fun v15 wc=>∃ (kq:Nat) (x15_2:Bool),v15=.bool x15_2∧Aside0 (berthref20_LessTexts.j1 kq l0 l1 x5_1 x15_2=some r)∧Aside0 (kq≤k1)∧Drawn0 w wc)
   case first =>
    have H:=HC3.out
    clear HC3
    by_cases c4:x5_1<(l0.length:Int)
    ·
     rw [if_pos c4] at H
     have c4b0:decide (x5_1<(l0.length:Int))=true:=decide_eq_true c4
     clear c4
     have H':=Aside0.mk H
     clear H
     go_wp2
     repeat (go_quiet (fail);try go_wp2)
     go_meet
     case rel=>exact ⟨_,(decide (x5_1<(l1.length:Int))),(by rfl),H',⟨by have:=HK1.out;omega⟩,by repeat (first|exact Drawn0.refl _|apply Drawn0.step)⟩
    ·
     rw [if_neg c4] at H
     have c4b0:decide (x5_1<(l0.length:Int))=false:=decide_eq_false c4
     clear c4
     have H':=Aside0.mk H
     clear H
     go_wp2
     repeat (go_quiet (fail);try go_wp2)
     go_meet
     case rel=>exact ⟨_,(false),(by rfl),H',⟨by have:=HK1.out;omega⟩,by repeat (first|exact Drawn0.refl _|apply Drawn0.step)⟩
   case rest =>
    clear HC3
    obtain ⟨kq,x15_2,rfl,HA,HJ2,⟨mc2,rfl⟩⟩:=hcut
    cases kq with
    | zero=>exact absurd HA.out (by simp [berthref20_LessTexts.j1])
    | succ kj2 =>
     have H:=HA.out
     clear HA
     simp only [berthref20_LessTexts.j1] at H
     by_cases c5:x15_2=true
     ·
      subst c5
      have H1:(if 0≤x5_1 then (if x5_1<(l0.length:Int) then (if x5_1<(l1.length:Int) then (if (rdOf ByteArray.empty l0 x5_1).toList=(rdOf ByteArray.empty l1 x5_1).toList then (berthref20_LessTexts.l0 kj2 l0 l1 (wrap64 (x5_1+1))) else (some (Op.bytesLess ((rdOf ByteArray.empty l0 x5_1).toList) ((rdOf ByteArray.empty l1 x5_1).toList)))) else (none)) else (none)) else (none))=some r:=by rw [if_pos rfl] at H;exact H
      clear H
      have H:=H1
      clear H1
      by_cases c6:0≤x5_1
      ·
       rw [if_pos c6] at H
       have c6b0:decide (0≤x5_1)=true:=decide_eq_true c6
       clear c6
       by_cases c7:x5_1<(l0.length:Int)
       ·
        rw [if_pos c7] at H
        have c7b0:decide (x5_1<(l0.length:Int))=true:=decide_eq_true c7
        clear c7
        by_cases c8:x5_1<(l1.length:Int)
        ·
         rw [if_pos c8] at H
         have c8b0:decide (x5_1<(l1.length:Int))=true:=decide_eq_true c8
         clear c8
         by_cases c9:(rdOf ByteArray.empty l0 x5_1).toList=(rdOf ByteArray.empty l1 x5_1).toList
         ·
          rw [if_pos c9] at H
          have c9b0:((rdOf ByteArray.empty l0 x5_1).toList == (rdOf ByteArray.empty l1 x5_1).toList)=true:=beq_iff_eq.mpr c9
          have c9b1:((rdOf ByteArray.empty l0 x5_1).toList != (rdOf ByteArray.empty l1 x5_1).toList)=false:=bne_eq_false_iff_eq.mpr c9
          clear c9
          have H':=Aside0.mk H
          clear H
          have p355:0≤(x5_1:Int):=of_decide_eq_true (by (with_reducible assumption))
          have q355:x5_1<(l0.length:Int):=of_decide_eq_true (by (with_reducible assumption))
          obtain ⟨ad355,e355,hx355_0⟩:=Kd.at_string HR0.out x5_1 p355 q355
          cases e355
          replace p355:=eq_true p355
          replace q355:=eq_true q355
          have p356:0≤(x5_1:Int):=of_decide_eq_true (by (with_reducible assumption))
          have q356:x5_1<(l1.length:Int):=of_decide_eq_true (by (with_reducible assumption))
          obtain ⟨ad356,e356,hx356_0⟩:=Kd.at_string HR1.out x5_1 p356 q356
          cases e356
          replace p356:=eq_true p356
          replace q356:=eq_true q356
          go_wp2
          repeat (go_quiet (fail);try go_wp2)
          go_roundg kj2
          case measure=>have:=HK1.out;have:=HJ2.out;omega
          case rel=>exact ⟨(wrap64 (x5_1+1)),(by rfl),H',⟨by have:=HK1.out;have:=HJ2.out;omega⟩,by repeat (first|exact Drawn0.refl _|apply Drawn0.step)⟩
         ·
          rw [if_neg c9] at H
          have c9b0:((rdOf ByteArray.empty l0 x5_1).toList == (rdOf ByteArray.empty l1 x5_1).toList)=false:=beq_eq_false_iff_ne.mpr c9
          have c9b1:((rdOf ByteArray.empty l0 x5_1).toList != (rdOf ByteArray.empty l1 x5_1).toList)=true:=bne_iff_ne.mpr c9
          obtain rfl:=Option.some.inj H
          have p355:0≤(x5_1:Int):=of_decide_eq_true (by (with_reducible assumption))
          have q355:x5_1<(l0.length:Int):=of_decide_eq_true (by (with_reducible assumption))
          obtain ⟨ad355,e355,hx355_0⟩:=Kd.at_string HR0.out x5_1 p355 q355
          cases e355
          replace p355:=eq_true p355
          replace q355:=eq_true q355
          have p356:0≤(x5_1:Int):=of_decide_eq_true (by (with_reducible assumption))
          have q356:x5_1<(l1.length:Int):=of_decide_eq_true (by (with_reducible assumption))
          obtain ⟨ad356,e356,hx356_0⟩:=Kd.at_string HR1.out x5_1 p356 q356
          cases e356
          replace p356:=eq_true p356
          replace q356:=eq_true q356
          have p357:0≤(x5_1:Int):=of_decide_eq_true (by (with_reducible assumption))
          have q357:x5_1<(l0.length:Int):=of_decide_eq_true (by (with_reducible assumption))
          obtain ⟨ad357,e357,hx357_0⟩:=Kd.at_string HR0.out x5_1 p357 q357
          obtain rfl:ad355=ad357:=(by injection e357)
          replace p357:=eq_true p357
          replace q357:=eq_true q357
          have p358:0≤(x5_1:Int):=of_decide_eq_true (by (with_reducible assumption))
          have q358:x5_1<(l1.length:Int):=of_decide_eq_true (by (with_reducible assumption))
          obtain ⟨ad358,e358,hx358_0⟩:=Kd.at_string HR1.out x5_1 p358 q358
          obtain rfl:ad356=ad358:=(by injection e358)
          replace p358:=eq_true p358
          replace q358:=eq_true q358
          go_wp2
          repeat (go_quiet (fail);try go_wp2)
          go_ret
          exact ⟨by rfl,by repeat (first|exact Drawn0.refl _|apply Drawn0.step)⟩
        ·
         rw [if_neg c8] at H
         exact absurd H (by simp)
       ·
        rw [if_neg c7] at H
        exact absurd H (by simp)
      ·
       rw [if_neg c6] at H
       exact absurd H (by simp)
     ·
      replace c5:=Bool.eq_false_iff.mpr c5
      subst c5
      have H1:(some (decide ((l0.length:Int)<(l1.length:Int))))=some r:=by rw [if_neg (show ¬(false=true) by decide)] at H;exact H
      clear H
      have H:=H1
      clear H1
      obtain rfl:=Option.some.inj H
      go_wp2
      repeat (go_quiet (fail);try go_wp2)
      go_ret
      exact ⟨by rfl,by repeat (first|exact Drawn0.refl _|apply Drawn0.step)⟩
mutual
def berthref20_LessNums.l0:Nat→List Int→List Int→Int→Option (Bool)
  | 0,_,_,_=>none
  | k+1,x0,x1,x5=>if x5<(x0.length:Int) then (berthref20_LessNums.j1 k x0 x1 x5 (decide (x5<(x1.length:Int)))) else (berthref20_LessNums.j1 k x0 x1 x5 false)
def berthref20_LessNums.j1:Nat→List Int→List Int→Int→Bool→Option (Bool)
  | 0,_,_,_,_=>none
  | k+1,x0,x1,x5,x15=>if x15=true then (if 0≤x5 then (if x5<(x0.length:Int) then (if x5<(x1.length:Int) then (if (rd x0 x5)=(rd x1 x5) then (berthref20_LessNums.l0 k x0 x1 (wrap64 (x5+1))) else (some (decide ((rd x0 x5)<(rd x1 x5))))) else (none)) else (none)) else (none)) else (some (decide ((x0.length:Int)<(x1.length:Int))))
end
def berthref20_LessNums.f (k:Nat) (l0:List Int) (l1:List Int):Option (Bool):=berthref20_LessNums.l0 k l0 l1 0
theorem berthref20_LessNums.calls (k:Nat) (A0:Option Addr) (c0:Nat) (l0:List Int) (A1:Option Addr) (c1:Nat) (l1:List Int) (r:Bool) (w:World) (hr0:Kd.C (Kd.int .i64) w A0 l0.length l0) (hc0:l0.length≤c0) (hr1:Kd.C (Kd.int .i64) w A1 l1.length l1) (hc1:l1.length≤c1) (h:berthref20_LessNums.f k l0 l1=some r) :
 Calls Try.prog 68 #[.slice A0 l0.length c0,.slice A1 l1.length c1] w fun e w'=>e=.returned (.bool r)∧Drawn0 w w':=by
 have HR0:=Aside0.mk hr0
 have HC0:=Aside0.mk hc0
 clear hr0 hc0
 have HR1:=Aside0.mk hr1
 have HC1:=Aside0.mk hc1
 clear hr1 hc1
 have H:(berthref20_LessNums.l0 k l0 l1 0)=some r:=h
 clear h
 have H':=Aside0.mk H
 clear H
 go_enter Try.func68,Try.ntmps68
 go_wp2
 repeat (go_quiet (fail);try go_wp2)
 go_loopg [5] k (fun kq v5 w'=>∃ (x5_1:Int),v5=.int .i64 x5_1∧Aside0 (berthref20_LessNums.l0 kq l0 l1 x5_1=some r)∧Aside0 (kq≤k)∧Drawn0 w w')
 case atStart=>exact ⟨(0),(by rfl),H',⟨Nat.le_refl _⟩,by repeat (exact Drawn0.refl _)⟩
 case round =>
  clear H'
  obtain ⟨x5_1,rfl,HA,HK1,⟨m1,rfl⟩⟩:=hrel
  cases gk with
  | zero=>exact absurd HA.out (by simp [berthref20_LessNums.l0])
  | succ k1 =>
   have H:=HA.out
   clear HA
   simp only [berthref20_LessNums.l0] at H
   have HC3:=Aside0.mk H
   clear H
   go_upto_region 2 with (fail)
   repeat (go_quiet (fail);go_upto_region 2 with (fail))
   go_cut [15] (fun v15 wc=>∃ (kq:Nat) (x15_2:Bool),v15=.bool x15_2∧Aside0 (berthref20_LessNums.j1 kq l0 l1 x5_1 x15_2=some r)∧Aside0 (kq≤k1)∧Drawn0 w wc)
   case first =>
    have H:=HC3.out
    clear HC3
    by_cases c4:x5_1<(l0.length:Int)
    ·
     rw [if_pos c4] at H
     have c4b0:decide (x5_1<(l0.length:Int))=true:=decide_eq_true c4
     clear c4
     have H':=Aside0.mk H
     clear H
     go_wp2
     repeat (go_quiet (fail);try go_wp2)
     go_meet
     case rel=>exact ⟨_,(decide (x5_1<(l1.length:Int))),(by rfl),H',⟨by have:=HK1.out;omega⟩,by repeat (first|exact Drawn0.refl _|apply Drawn0.step)⟩
    ·
     rw [if_neg c4] at H
     have c4b0:decide (x5_1<(l0.length:Int))=false:=decide_eq_false c4
     clear c4
     have H':=Aside0.mk H
     clear H
     go_wp2
     repeat (go_quiet (fail);try go_wp2)
     go_meet
     case rel=>exact ⟨_,(false),(by rfl),H',⟨by have:=HK1.out;omega⟩,by repeat (first|exact Drawn0.refl _|apply Drawn0.step)⟩
   case rest =>
    clear HC3
    obtain ⟨kq,x15_2,rfl,HA,HJ2,⟨mc2,rfl⟩⟩:=hcut
    cases kq with
    | zero=>exact absurd HA.out (by simp [berthref20_LessNums.j1])
    | succ kj2 =>
     have H:=HA.out
     clear HA
     simp only [berthref20_LessNums.j1] at H
     by_cases c5:x15_2=true
     ·
      subst c5
      have H1:(if 0≤x5_1 then (if x5_1<(l0.length:Int) then (if x5_1<(l1.length:Int) then (if (rd l0 x5_1)=(rd l1 x5_1) then (berthref20_LessNums.l0 kj2 l0 l1 (wrap64 (x5_1+1))) else (some (decide ((rd l0 x5_1)<(rd l1 x5_1))))) else (none)) else (none)) else (none))=some r:=by rw [if_pos rfl] at H;exact H
      clear H
      have H:=H1
      clear H1
      by_cases c6:0≤x5_1
      ·
       rw [if_pos c6] at H
       have c6b0:decide (0≤x5_1)=true:=decide_eq_true c6
       clear c6
       by_cases c7:x5_1<(l0.length:Int)
       ·
        rw [if_pos c7] at H
        have c7b0:decide (x5_1<(l0.length:Int))=true:=decide_eq_true c7
        clear c7
        by_cases c8:x5_1<(l1.length:Int)
        ·
         rw [if_pos c8] at H
         have c8b0:decide (x5_1<(l1.length:Int))=true:=decide_eq_true c8
         clear c8
         by_cases c9:(rd l0 x5_1)=(rd l1 x5_1)
         ·
          rw [if_pos c9] at H
          have c9b0:((rd l0 x5_1) == (rd l1 x5_1))=true:=beq_iff_eq.mpr c9
          have c9b1:((rd l0 x5_1) != (rd l1 x5_1))=false:=bne_eq_false_iff_eq.mpr c9
          clear c9
          have H':=Aside0.mk H
          clear H
          have p359:0≤(x5_1:Int):=of_decide_eq_true (by (with_reducible assumption))
          have q359:x5_1<(l0.length:Int):=of_decide_eq_true (by (with_reducible assumption))
          obtain ⟨ad359,e359,hx359_0⟩:=Kd.at_int HR0.out x5_1 p359 q359
          cases e359
          replace p359:=eq_true p359
          replace q359:=eq_true q359
          have p360:0≤(x5_1:Int):=of_decide_eq_true (by (with_reducible assumption))
          have q360:x5_1<(l1.length:Int):=of_decide_eq_true (by (with_reducible assumption))
          obtain ⟨ad360,e360,hx360_0⟩:=Kd.at_int HR1.out x5_1 p360 q360
          cases e360
          replace p360:=eq_true p360
          replace q360:=eq_true q360
          go_wp2
          repeat (go_quiet (fail);try go_wp2)
          go_roundg kj2
          case measure=>have:=HK1.out;have:=HJ2.out;omega
          case rel=>exact ⟨(wrap64 (x5_1+1)),(by rfl),H',⟨by have:=HK1.out;have:=HJ2.out;omega⟩,by repeat (first|exact Drawn0.refl _|apply Drawn0.step)⟩
         ·
          rw [if_neg c9] at H
          have c9b0:((rd l0 x5_1) == (rd l1 x5_1))=false:=beq_eq_false_iff_ne.mpr c9
          have c9b1:((rd l0 x5_1) != (rd l1 x5_1))=true:=bne_iff_ne.mpr c9
          obtain rfl:=Option.some.inj H
          have p359:0≤(x5_1:Int):=of_decide_eq_true (by (with_reducible assumption))
          have q359:x5_1<(l0.length:Int):=of_decide_eq_true (by (with_reducible assumption))
          obtain ⟨ad359,e359,hx359_0⟩:=Kd.at_int HR0.out x5_1 p359 q359
          cases e359
          replace p359:=eq_true p359
          replace q359:=eq_true q359
          have p360:0≤(x5_1:Int):=of_decide_eq_true (by (with_reducible assumption))
          have q360:x5_1<(l1.length:Int):=of_decide_eq_true (by (with_reducible assumption))
          obtain ⟨ad360,e360,hx360_0⟩:=Kd.at_int HR1.out x5_1 p360 q360
          cases e360
          replace p360:=eq_true p360
          replace q360:=eq_true q360
          have p361:0≤(x5_1:Int):=of_decide_eq_true (by (with_reducible assumption))
          have q361:x5_1<(l0.length:Int):=of_decide_eq_true (by (with_reducible assumption))
          obtain ⟨ad361,e361,hx361_0⟩:=Kd.at_int HR0.out x5_1 p361 q361
          obtain rfl:ad359=ad361:=(by injection e361)
          replace p361:=eq_true p361
          replace q361:=eq_true q361
          have p362:0≤(x5_1:Int):=of_decide_eq_true (by (with_reducible assumption))
          have q362:x5_1<(l1.length:Int):=of_decide_eq_true (by (with_reducible assumption))
          obtain ⟨ad362,e362,hx362_0⟩:=Kd.at_int HR1.out x5_1 p362 q362
          obtain rfl:ad360=ad362:=(by injection e362)
          replace p362:=eq_true p362
          replace q362:=eq_true q362
          go_wp2
          repeat (go_quiet (fail);try go_wp2)
          go_ret
          exact ⟨by rfl,by repeat (first|exact Drawn0.refl _|apply Drawn0.step)⟩
        ·
         rw [if_neg c8] at H
         exact absurd H (by simp)
       ·
        rw [if_neg c7] at H
        exact absurd H (by simp)
      ·
       rw [if_neg c6] at H
       exact absurd H (by simp)
     ·
      replace c5:=Bool.eq_false_iff.mpr c5
      subst c5
      have H1:(some (decide ((l0.length:Int)<(l1.length:Int))))=some r:=by rw [if_neg (show ¬(false=true) by decide)] at H;exact H
      clear H
      have H:=H1
      clear H1
      obtain rfl:=Option.some.inj H
      go_wp2
      repeat (go_quiet (fail);try go_wp2)
      go_ret
      exact ⟨by rfl,by repeat (first|exact Drawn0.refl _|apply Drawn0.step)⟩
end Go.Proofs.Ytbnplhmmbnmagaa.All
namespace Go.Proofs.Ytbnplhmmbnmagaa.All
open Go.RowKit Go.Proofs.YtbnplhmmbnmagaaW.PrintWords Go.Proofs.YtbnplhmmbnmagaaW.PrintLast Go.Proofs.YtbnplhmmbnmagaaW.PrintMore
attribute [local go_sem] bZn bZl bZR bZQ aZ6 aZ5 bZm bZk
attribute [local go_sem] Go.Proofs.YtbnplhmmbnmagaaX.binOp_leq Go.Proofs.YtbnplhmmbnmagaaX.binOp_geq Go.Proofs.YtbnplhmmbnmagaaX.binOp_gtr
mutual
def berthref20_Uses.j0:Nat→Int→Bool→Option (Bool × Bool × Bool)
  | 0,_,_=>none
  | k+1,x5,x6=>if x6=true then (some (true,false,false)) else (if x5=19 then (berthref20_Uses.j1 k x5 (x5 == 19)) else (if x5=21 then (berthref20_Uses.j1 k x5 (x5 == 21)) else (if x5=22 then (berthref20_Uses.j1 k x5 (x5 == 22)) else (berthref20_Uses.j1 k x5 (x5 == 23)))))
def berthref20_Uses.j1:Nat→Int→Bool→Option (Bool × Bool × Bool)
  | 0,_,_=>none
  | k+1,x5,x22=>if x22=true then (some (false,true,false)) else (if x5=12 then (berthref20_Uses.j2 k x5 (x5 == 12)) else (berthref20_Uses.j2 k x5 (x5 == 17)))
def berthref20_Uses.j2:Nat→Int→Bool→Option (Bool × Bool × Bool)
  | 0,_,_=>none
  | k+1,x5,x27=>if x27=true then (some (true,true,false)) else (if x5=25 then (some (true,false,true)) else (if x5=18 then (berthref20_Uses.j3 k x5 (x5 == 18)) else (berthref20_Uses.j3 k x5 (x5 == 20))))
def berthref20_Uses.j3:Nat→Int→Bool→Option (Bool × Bool × Bool)
  | 0,_,_=>none
  | k+1,x5,x32=>if x32=true then (some (false,true,true)) else (if x5=16 then (some (true,true,true)) else (some (false,false,false)))
end
def berthref20_Uses.f (k:Nat) (a0:Int):Option (Bool × Bool × Bool):=if a0=1 then (berthref20_Uses.j0 k a0 (a0 == 1)) else (if a0=2 then (berthref20_Uses.j0 k a0 (a0 == 2)) else (if a0=3 then (berthref20_Uses.j0 k a0 (a0 == 3)) else (if a0=4 then (berthref20_Uses.j0 k a0 (a0 == 4)) else (if a0=5 then (berthref20_Uses.j0 k a0 (a0 == 5)) else (if a0=6 then (berthref20_Uses.j0 k a0 (a0 == 6)) else (if a0=7 then (berthref20_Uses.j0 k a0 (a0 == 7)) else (if a0=13 then (berthref20_Uses.j0 k a0 (a0 == 13)) else (if a0=14 then (berthref20_Uses.j0 k a0 (a0 == 14)) else (if a0=24 then (berthref20_Uses.j0 k a0 (a0 == 24)) else (if a0=26 then (berthref20_Uses.j0 k a0 (a0 == 26)) else (if a0=31 then (berthref20_Uses.j0 k a0 (a0 == 31)) else (if a0=32 then (berthref20_Uses.j0 k a0 (a0 == 32)) else (if a0=33 then (berthref20_Uses.j0 k a0 (a0 == 33)) else (berthref20_Uses.j0 k a0 (a0 == 34)))))))))))))))
theorem berthref20_Uses.calls (k:Nat) (a0:Int) (r1:Bool) (r2:Bool) (r3:Bool) (w:World) (h:berthref20_Uses.f k a0=some (r1,r2,r3)) :
 Calls Try.prog 101 #[.int .i64 a0] w fun e w'=>e=.returned (.tuple #[.bool r1,.bool r2,.bool r3])∧Drawn0 w w':=by
 have H:(if a0=1 then (berthref20_Uses.j0 k a0 (a0 == 1)) else (if a0=2 then (berthref20_Uses.j0 k a0 (a0 == 2)) else (if a0=3 then (berthref20_Uses.j0 k a0 (a0 == 3)) else (if a0=4 then (berthref20_Uses.j0 k a0 (a0 == 4)) else (if a0=5 then (berthref20_Uses.j0 k a0 (a0 == 5)) else (if a0=6 then (berthref20_Uses.j0 k a0 (a0 == 6)) else (if a0=7 then (berthref20_Uses.j0 k a0 (a0 == 7)) else (if a0=13 then (berthref20_Uses.j0 k a0 (a0 == 13)) else (if a0=14 then (berthref20_Uses.j0 k a0 (a0 == 14)) else (if a0=24 then (berthref20_Uses.j0 k a0 (a0 == 24)) else (if a0=26 then (berthref20_Uses.j0 k a0 (a0 == 26)) else (if a0=31 then (berthref20_Uses.j0 k a0 (a0 == 31)) else (if a0=32 then (berthref20_Uses.j0 k a0 (a0 == 32)) else (if a0=33 then (berthref20_Uses.j0 k a0 (a0 == 33)) else (berthref20_Uses.j0 k a0 (a0 == 34))))))))))))))))=some (r1,r2,r3):=h
 clear h
 have HC2:=Aside0.mk H
 clear H
 go_enter Try.func101,Try.ntmps101
 go_upto_if 6 with (fail)
 go_cut [6] (fun v6 wc=>∃ (kq:Nat) (x6_1:Bool),v6=.bool x6_1∧Aside0 (berthref20_Uses.j0 kq a0 x6_1=some (r1,r2,r3))∧Aside0 (kq≤k)∧Drawn0 w wc)
 case first =>
  have H:=HC2.out
  clear HC2
  by_cases c3:a0=1
  ·
   rw [if_pos c3] at H
   have c3b0:(a0 == 1)=true:=beq_iff_eq.mpr c3
   have c3b1:(a0 != 1)=false:=bne_eq_false_iff_eq.mpr c3
   clear c3
   (rw [c3b0])
   have H':=Aside0.mk H
   clear H
   go_wp2
   go_meet
   case rel=>exact ⟨_,((a0 == 1)),(by (simp [*];done)),H',⟨by omega⟩,by repeat (exact Drawn0.refl _)⟩
  ·
   rw [if_neg c3] at H
   have c3b0:(a0 == 1)=false:=beq_eq_false_iff_ne.mpr c3
   have c3b1:(a0 != 1)=true:=bne_iff_ne.mpr c3
   (rw [c3b0])
   by_cases c4:a0=2
   ·
    rw [if_pos c4] at H
    have c4b0:(a0 == 2)=true:=beq_iff_eq.mpr c4
    have c4b1:(a0 != 2)=false:=bne_eq_false_iff_eq.mpr c4
    clear c4
    have H':=Aside0.mk H
    clear H
    go_wp2
    go_meet
    case rel=>exact ⟨_,((a0 == 2)),(by (simp [*];done)),H',⟨by omega⟩,by repeat (exact Drawn0.refl _)⟩
   ·
    rw [if_neg c4] at H
    have c4b0:(a0 == 2)=false:=beq_eq_false_iff_ne.mpr c4
    have c4b1:(a0 != 2)=true:=bne_iff_ne.mpr c4
    by_cases c5:a0=3
    ·
     rw [if_pos c5] at H
     have c5b0:(a0 == 3)=true:=beq_iff_eq.mpr c5
     have c5b1:(a0 != 3)=false:=bne_eq_false_iff_eq.mpr c5
     clear c5
     have H':=Aside0.mk H
     clear H
     go_wp2
     go_meet
     case rel=>exact ⟨_,((a0 == 3)),(by (simp [*];done)),H',⟨by omega⟩,by repeat (exact Drawn0.refl _)⟩
    ·
     rw [if_neg c5] at H
     have c5b0:(a0 == 3)=false:=beq_eq_false_iff_ne.mpr c5
     have c5b1:(a0 != 3)=true:=bne_iff_ne.mpr c5
     by_cases c6:a0=4
     ·
      rw [if_pos c6] at H
      have c6b0:(a0 == 4)=true:=beq_iff_eq.mpr c6
      have c6b1:(a0 != 4)=false:=bne_eq_false_iff_eq.mpr c6
      clear c6
      have H':=Aside0.mk H
      clear H
      go_wp2
      go_meet
      case rel=>exact ⟨_,((a0 == 4)),(by (simp [*];done)),H',⟨by omega⟩,by repeat (exact Drawn0.refl _)⟩
     ·
      rw [if_neg c6] at H
      have c6b0:(a0 == 4)=false:=beq_eq_false_iff_ne.mpr c6
      have c6b1:(a0 != 4)=true:=bne_iff_ne.mpr c6
      by_cases c7:a0=5
      ·
       rw [if_pos c7] at H
       have c7b0:(a0 == 5)=true:=beq_iff_eq.mpr c7
       have c7b1:(a0 != 5)=false:=bne_eq_false_iff_eq.mpr c7
       clear c7
       have H':=Aside0.mk H
       clear H
       go_wp2
       go_meet
       case rel=>exact ⟨_,((a0 == 5)),(by (simp [*];done)),H',⟨by omega⟩,by repeat (exact Drawn0.refl _)⟩
      ·
       rw [if_neg c7] at H
       have c7b0:(a0 == 5)=false:=beq_eq_false_iff_ne.mpr c7
       have c7b1:(a0 != 5)=true:=bne_iff_ne.mpr c7
       by_cases c8:a0=6
       ·
        rw [if_pos c8] at H
        have c8b0:(a0 == 6)=true:=beq_iff_eq.mpr c8
        have c8b1:(a0 != 6)=false:=bne_eq_false_iff_eq.mpr c8
        clear c8
        have H':=Aside0.mk H
        clear H
        go_wp2
        go_meet
        case rel=>exact ⟨_,((a0 == 6)),(by (simp [*];done)),H',⟨by omega⟩,by repeat (exact Drawn0.refl _)⟩
       ·
        rw [if_neg c8] at H
        have c8b0:(a0 == 6)=false:=beq_eq_false_iff_ne.mpr c8
        have c8b1:(a0 != 6)=true:=bne_iff_ne.mpr c8
        by_cases c9:a0=7
        ·
         rw [if_pos c9] at H
         have c9b0:(a0 == 7)=true:=beq_iff_eq.mpr c9
         have c9b1:(a0 != 7)=false:=bne_eq_false_iff_eq.mpr c9
         clear c9
         have H':=Aside0.mk H
         clear H
         go_wp2
         go_meet
         case rel=>exact ⟨_,((a0 == 7)),(by (simp [*];done)),H',⟨by omega⟩,by repeat (exact Drawn0.refl _)⟩
        ·
         rw [if_neg c9] at H
         have c9b0:(a0 == 7)=false:=beq_eq_false_iff_ne.mpr c9
         have c9b1:(a0 != 7)=true:=bne_iff_ne.mpr c9
         by_cases c10:a0=13
         ·
          rw [if_pos c10] at H
          have c10b0:(a0 == 13)=true:=beq_iff_eq.mpr c10
          have c10b1:(a0 != 13)=false:=bne_eq_false_iff_eq.mpr c10
          clear c10
          have H':=Aside0.mk H
          clear H
          go_wp2
          go_meet
          case rel=>exact ⟨_,((a0 == 13)),(by (simp [*];done)),H',⟨by omega⟩,by repeat (exact Drawn0.refl _)⟩
         ·
          rw [if_neg c10] at H
          have c10b0:(a0 == 13)=false:=beq_eq_false_iff_ne.mpr c10
          have c10b1:(a0 != 13)=true:=bne_iff_ne.mpr c10
          by_cases c11:a0=14
          ·
           rw [if_pos c11] at H
           have c11b0:(a0 == 14)=true:=beq_iff_eq.mpr c11
           have c11b1:(a0 != 14)=false:=bne_eq_false_iff_eq.mpr c11
           clear c11
           have H':=Aside0.mk H
           clear H
           go_wp2
           go_meet
           case rel=>exact ⟨_,((a0 == 14)),(by (simp [*];done)),H',⟨by omega⟩,by repeat (exact Drawn0.refl _)⟩
          ·
           rw [if_neg c11] at H
           have c11b0:(a0 == 14)=false:=beq_eq_false_iff_ne.mpr c11
           have c11b1:(a0 != 14)=true:=bne_iff_ne.mpr c11
           by_cases c12:a0=24
           ·
            rw [if_pos c12] at H
            have c12b0:(a0 == 24)=true:=beq_iff_eq.mpr c12
            have c12b1:(a0 != 24)=false:=bne_eq_false_iff_eq.mpr c12
            clear c12
            have H':=Aside0.mk H
            clear H
            go_wp2
            go_meet
            case rel=>exact ⟨_,((a0 == 24)),(by (simp [*];done)),H',⟨by omega⟩,by repeat (exact Drawn0.refl _)⟩
           ·
            rw [if_neg c12] at H
            have c12b0:(a0 == 24)=false:=beq_eq_false_iff_ne.mpr c12
            have c12b1:(a0 != 24)=true:=bne_iff_ne.mpr c12
            by_cases c13:a0=26
            ·
             rw [if_pos c13] at H
             have c13b0:(a0 == 26)=true:=beq_iff_eq.mpr c13
             have c13b1:(a0 != 26)=false:=bne_eq_false_iff_eq.mpr c13
             clear c13
             have H':=Aside0.mk H
             clear H
             go_wp2
             go_meet
             case rel=>exact ⟨_,((a0 == 26)),(by (simp [*];done)),H',⟨by omega⟩,by repeat (exact Drawn0.refl _)⟩
            ·
             rw [if_neg c13] at H
             have c13b0:(a0 == 26)=false:=beq_eq_false_iff_ne.mpr c13
             have c13b1:(a0 != 26)=true:=bne_iff_ne.mpr c13
             by_cases c14:a0=31
             ·
              rw [if_pos c14] at H
              have c14b0:(a0 == 31)=true:=beq_iff_eq.mpr c14
              have c14b1:(a0 != 31)=false:=bne_eq_false_iff_eq.mpr c14
              clear c14
              have H':=Aside0.mk H
              clear H
              go_wp2
              go_meet
              case rel=>exact ⟨_,((a0 == 31)),(by (simp [*];done)),H',⟨by omega⟩,by repeat (exact Drawn0.refl _)⟩
             ·
              rw [if_neg c14] at H
              have c14b0:(a0 == 31)=false:=beq_eq_false_iff_ne.mpr c14
              have c14b1:(a0 != 31)=true:=bne_iff_ne.mpr c14
              by_cases c15:a0=32
              ·
               rw [if_pos c15] at H
               have c15b0:(a0 == 32)=true:=beq_iff_eq.mpr c15
               have c15b1:(a0 != 32)=false:=bne_eq_false_iff_eq.mpr c15
               clear c15
               have H':=Aside0.mk H
               clear H
               go_wp2
               go_meet
               case rel=>exact ⟨_,((a0 == 32)),(by (simp [*];done)),H',⟨by omega⟩,by repeat (exact Drawn0.refl _)⟩
              ·
               rw [if_neg c15] at H
               have c15b0:(a0 == 32)=false:=beq_eq_false_iff_ne.mpr c15
               have c15b1:(a0 != 32)=true:=bne_iff_ne.mpr c15
               by_cases c16:a0=33
               ·
                rw [if_pos c16] at H
                have c16b0:(a0 == 33)=true:=beq_iff_eq.mpr c16
                have c16b1:(a0 != 33)=false:=bne_eq_false_iff_eq.mpr c16
                clear c16
                have H':=Aside0.mk H
                clear H
                go_wp2
                go_meet
                case rel=>exact ⟨_,((a0 == 33)),(by (simp [*];done)),H',⟨by omega⟩,by repeat (exact Drawn0.refl _)⟩
               ·
                rw [if_neg c16] at H
                have c16b0:(a0 == 33)=false:=beq_eq_false_iff_ne.mpr c16
                have c16b1:(a0 != 33)=true:=bne_iff_ne.mpr c16
                have H':=Aside0.mk H
                clear H
                go_wp2
                go_meet
                case rel=>exact ⟨_,((a0 == 34)),(by rfl),H',⟨by omega⟩,by repeat (exact Drawn0.refl _)⟩
 case rest =>
  clear HC2
  obtain ⟨kq,x6_1,rfl,HA,HJ1,⟨mc1,rfl⟩⟩:=hcut
  cases kq with
  | zero=>exact absurd HA.out (by simp [berthref20_Uses.j0])
  | succ kj1 =>
   have H:=HA.out
   clear HA
   simp only [berthref20_Uses.j0] at H
   by_cases c17:x6_1=true
   ·
    subst c17
    have H1:(some (true,false,false))=some (r1,r2,r3):=by rw [if_pos rfl] at H;exact H
    clear H
    have H:=H1
    clear H1
    simp only [Option.some.injEq,Prod.mk.injEq] at H
    obtain ⟨rfl,rfl,rfl⟩:=H
    go_wp2
    go_ret3
    exact ⟨by rfl,by repeat (first|exact Drawn0.refl _|apply Drawn0.step)⟩
   ·
    replace c17:=Bool.eq_false_iff.mpr c17
    subst c17
    have H1:(if a0=19 then (berthref20_Uses.j1 kj1 a0 (a0 == 19)) else (if a0=21 then (berthref20_Uses.j1 kj1 a0 (a0 == 21)) else (if a0=22 then (berthref20_Uses.j1 kj1 a0 (a0 == 22)) else (berthref20_Uses.j1 kj1 a0 (a0 == 23)))))=some (r1,r2,r3):=by rw [if_neg (show ¬(false=true) by decide)] at H;exact H
    clear H
    have H:=H1
    clear H1
    have HC18:=Aside0.mk H
    clear H
    go_upto_if 22 with (fail)
    go_cut [22] (fun v22 wc=>∃ (kq:Nat) (x22_17:Bool),v22=.bool x22_17∧Aside0 (berthref20_Uses.j1 kq a0 x22_17=some (r1,r2,r3))∧Aside0 (kq≤kj1)∧Drawn0 w wc)
    case first =>
     have H:=HC18.out
     clear HC18
     by_cases c19:a0=19
     ·
      rw [if_pos c19] at H
      have c19b0:(a0 == 19)=true:=beq_iff_eq.mpr c19
      have c19b1:(a0 != 19)=false:=bne_eq_false_iff_eq.mpr c19
      clear c19
      (rw [c19b0])
      have H':=Aside0.mk H
      clear H
      go_wp2
      go_meet
      case rel=>exact ⟨_,((a0 == 19)),(by (simp [*];done)),H',⟨by have:=HJ1.out;omega⟩,by repeat (first|exact Drawn0.refl _|apply Drawn0.step)⟩
     ·
      rw [if_neg c19] at H
      have c19b0:(a0 == 19)=false:=beq_eq_false_iff_ne.mpr c19
      have c19b1:(a0 != 19)=true:=bne_iff_ne.mpr c19
      (rw [c19b0])
      by_cases c20:a0=21
      ·
       rw [if_pos c20] at H
       have c20b0:(a0 == 21)=true:=beq_iff_eq.mpr c20
       have c20b1:(a0 != 21)=false:=bne_eq_false_iff_eq.mpr c20
       clear c20
       have H':=Aside0.mk H
       clear H
       go_wp2
       go_meet
       case rel=>exact ⟨_,((a0 == 21)),(by (simp [*];done)),H',⟨by have:=HJ1.out;omega⟩,by repeat (first|exact Drawn0.refl _|apply Drawn0.step)⟩
      ·
       rw [if_neg c20] at H
       have c20b0:(a0 == 21)=false:=beq_eq_false_iff_ne.mpr c20
       have c20b1:(a0 != 21)=true:=bne_iff_ne.mpr c20
       by_cases c21:a0=22
       ·
        rw [if_pos c21] at H
        have c21b0:(a0 == 22)=true:=beq_iff_eq.mpr c21
        have c21b1:(a0 != 22)=false:=bne_eq_false_iff_eq.mpr c21
        clear c21
        have H':=Aside0.mk H
        clear H
        go_wp2
        go_meet
        case rel=>exact ⟨_,((a0 == 22)),(by (simp [*];done)),H',⟨by have:=HJ1.out;omega⟩,by repeat (first|exact Drawn0.refl _|apply Drawn0.step)⟩
       ·
        rw [if_neg c21] at H
        have c21b0:(a0 == 22)=false:=beq_eq_false_iff_ne.mpr c21
        have c21b1:(a0 != 22)=true:=bne_iff_ne.mpr c21
        have H':=Aside0.mk H
        clear H
        go_wp2
        go_meet
        case rel=>exact ⟨_,((a0 == 23)),(by rfl),H',⟨by have:=HJ1.out;omega⟩,by repeat (first|exact Drawn0.refl _|apply Drawn0.step)⟩
    case rest =>
     clear HC18
     obtain ⟨kq,x22_17,rfl,HA,HJ17,⟨mc17,rfl⟩⟩:=hcut
     cases kq with
     | zero=>exact absurd HA.out (by simp [berthref20_Uses.j1])
     | succ kj17 =>
      have H:=HA.out
      clear HA
      simp only [berthref20_Uses.j1] at H
      by_cases c22:x22_17=true
      ·
       subst c22
       have H1:(some (false,true,false))=some (r1,r2,r3):=by rw [if_pos rfl] at H;exact H
       clear H
       have H:=H1
       clear H1
       simp only [Option.some.injEq,Prod.mk.injEq] at H
       obtain ⟨rfl,rfl,rfl⟩:=H
       go_wp2
       go_ret3
       exact ⟨by rfl,by repeat (first|exact Drawn0.refl _|apply Drawn0.step)⟩
      ·
       replace c22:=Bool.eq_false_iff.mpr c22
       subst c22
       have H1:(if a0=12 then (berthref20_Uses.j2 kj17 a0 (a0 == 12)) else (berthref20_Uses.j2 kj17 a0 (a0 == 17)))=some (r1,r2,r3):=by rw [if_neg (show ¬(false=true) by decide)] at H;exact H
       clear H
       have H:=H1
       clear H1
       have HC23:=Aside0.mk H
       clear H
       go_upto_if 27 with (fail)
       go_cut [27] (fun v27 wc=>∃ (kq:Nat) (x27_22:Bool),v27=.bool x27_22∧Aside0 (berthref20_Uses.j2 kq a0 x27_22=some (r1,r2,r3))∧Aside0 (kq≤kj17)∧Drawn0 w wc)
       case first =>
        have H:=HC23.out
        clear HC23
        by_cases c24:a0=12
        ·
         rw [if_pos c24] at H
         have c24b0:(a0 == 12)=true:=beq_iff_eq.mpr c24
         have c24b1:(a0 != 12)=false:=bne_eq_false_iff_eq.mpr c24
         clear c24
         (rw [c24b0])
         have H':=Aside0.mk H
         clear H
         go_wp2
         go_meet
         case rel=>exact ⟨_,((a0 == 12)),(by (simp [*];done)),H',⟨by have:=HJ1.out;have:=HJ17.out;omega⟩,by repeat (first|exact Drawn0.refl _|apply Drawn0.step)⟩
        ·
         rw [if_neg c24] at H
         have c24b0:(a0 == 12)=false:=beq_eq_false_iff_ne.mpr c24
         have c24b1:(a0 != 12)=true:=bne_iff_ne.mpr c24
         (rw [c24b0])
         have H':=Aside0.mk H
         clear H
         go_wp2
         go_meet
         case rel=>exact ⟨_,((a0 == 17)),(by rfl),H',⟨by have:=HJ1.out;have:=HJ17.out;omega⟩,by repeat (first|exact Drawn0.refl _|apply Drawn0.step)⟩
       case rest =>
        clear HC23
        obtain ⟨kq,x27_22,rfl,HA,HJ22,⟨mc22,rfl⟩⟩:=hcut
        cases kq with
        | zero=>exact absurd HA.out (by simp [berthref20_Uses.j2])
        | succ kj22 =>
         have H:=HA.out
         clear HA
         simp only [berthref20_Uses.j2] at H
         by_cases c25:x27_22=true
         ·
          subst c25
          have H1:(some (true,true,false))=some (r1,r2,r3):=by rw [if_pos rfl] at H;exact H
          clear H
          have H:=H1
          clear H1
          simp only [Option.some.injEq,Prod.mk.injEq] at H
          obtain ⟨rfl,rfl,rfl⟩:=H
          go_wp2
          go_ret3
          exact ⟨by rfl,by repeat (first|exact Drawn0.refl _|apply Drawn0.step)⟩
         ·
          replace c25:=Bool.eq_false_iff.mpr c25
          subst c25
          have H1:(if a0=25 then (some (true,false,true)) else (if a0=18 then (berthref20_Uses.j3 kj22 a0 (a0 == 18)) else (berthref20_Uses.j3 kj22 a0 (a0 == 20))))=some (r1,r2,r3):=by rw [if_neg (show ¬(false=true) by decide)] at H;exact H
          clear H
          have H:=H1
          clear H1
          by_cases c26:a0=25
          ·
           rw [if_pos c26] at H
           have c26b0:(a0 == 25)=true:=beq_iff_eq.mpr c26
           have c26b1:(a0 != 25)=false:=bne_eq_false_iff_eq.mpr c26
           clear c26
           simp only [Option.some.injEq,Prod.mk.injEq] at H
           obtain ⟨rfl,rfl,rfl⟩:=H
           go_wp2
           go_ret3
           exact ⟨by rfl,by repeat (first|exact Drawn0.refl _|apply Drawn0.step)⟩
          ·
           rw [if_neg c26] at H
           have c26b0:(a0 == 25)=false:=beq_eq_false_iff_ne.mpr c26
           have c26b1:(a0 != 25)=true:=bne_iff_ne.mpr c26
           have HC27:=Aside0.mk H
           clear H
           go_upto_if 32 with (fail)
           go_cut [32] (fun v32 wc=>∃ (kq:Nat) (x32_26:Bool),v32=.bool x32_26∧Aside0 (berthref20_Uses.j3 kq a0 x32_26=some (r1,r2,r3))∧Aside0 (kq≤kj22)∧Drawn0 w wc)
           case first =>
            have H:=HC27.out
            clear HC27
            by_cases c28:a0=18
            ·
             rw [if_pos c28] at H
             have c28b0:(a0 == 18)=true:=beq_iff_eq.mpr c28
             have c28b1:(a0 != 18)=false:=bne_eq_false_iff_eq.mpr c28
             clear c28
             (rw [c28b0])
             have H':=Aside0.mk H
             clear H
             go_wp2
             go_meet
             case rel=>exact ⟨_,((a0 == 18)),(by (simp [*];done)),H',⟨by have:=HJ1.out;have:=HJ17.out;have:=HJ22.out;omega⟩,by repeat (first|exact Drawn0.refl _|apply Drawn0.step)⟩
            ·
             rw [if_neg c28] at H
             have c28b0:(a0 == 18)=false:=beq_eq_false_iff_ne.mpr c28
             have c28b1:(a0 != 18)=true:=bne_iff_ne.mpr c28
             (rw [c28b0])
             have H':=Aside0.mk H
             clear H
             go_wp2
             go_meet
             case rel=>exact ⟨_,((a0 == 20)),(by rfl),H',⟨by have:=HJ1.out;have:=HJ17.out;have:=HJ22.out;omega⟩,by repeat (first|exact Drawn0.refl _|apply Drawn0.step)⟩
           case rest =>
            clear HC27
            try clear c26;try clear c26b0;try clear c26b1
            obtain ⟨kq,x32_26,rfl,HA,HJ26,⟨mc26,rfl⟩⟩:=hcut
            cases kq with
            | zero=>exact absurd HA.out (by simp [berthref20_Uses.j3])
            | succ kj26 =>
             have H:=HA.out
             clear HA
             simp only [berthref20_Uses.j3] at H
             by_cases c29:x32_26=true
             ·
              subst c29
              have H1:(some (false,true,true))=some (r1,r2,r3):=by rw [if_pos rfl] at H;exact H
              clear H
              have H:=H1
              clear H1
              simp only [Option.some.injEq,Prod.mk.injEq] at H
              obtain ⟨rfl,rfl,rfl⟩:=H
              go_wp2
              go_ret3
              exact ⟨by rfl,by repeat (first|exact Drawn0.refl _|apply Drawn0.step)⟩
             ·
              replace c29:=Bool.eq_false_iff.mpr c29
              subst c29
              have H1:(if a0=16 then (some (true,true,true)) else (some (false,false,false)))=some (r1,r2,r3):=by rw [if_neg (show ¬(false=true) by decide)] at H;exact H
              clear H
              have H:=H1
              clear H1
              by_cases c30:a0=16
              ·
               rw [if_pos c30] at H
               have c30b0:(a0 == 16)=true:=beq_iff_eq.mpr c30
               have c30b1:(a0 != 16)=false:=bne_eq_false_iff_eq.mpr c30
               clear c30
               simp only [Option.some.injEq,Prod.mk.injEq] at H
               obtain ⟨rfl,rfl,rfl⟩:=H
               go_wp2
               go_ret3
               exact ⟨by rfl,by repeat (first|exact Drawn0.refl _|apply Drawn0.step)⟩
              ·
               rw [if_neg c30] at H
               have c30b0:(a0 == 16)=false:=beq_eq_false_iff_ne.mpr c30
               have c30b1:(a0 != 16)=true:=bne_iff_ne.mpr c30
               simp only [Option.some.injEq,Prod.mk.injEq] at H
               obtain ⟨rfl,rfl,rfl⟩:=H
               go_wp2
               go_ret3
               exact ⟨by rfl,by repeat (first|exact Drawn0.refl _|apply Drawn0.step)⟩
end Go.Proofs.Ytbnplhmmbnmagaa.All
namespace Go.Proofs.Ytbnplhmmbnmagaa.All
open Go.RowKit Go.Proofs.YtbnplhmmbnmagaaW.PrintWords Go.Proofs.YtbnplhmmbnmagaaW.PrintLast Go.Proofs.YtbnplhmmbnmagaaW.PrintMore
attribute [local go_sem] bZn bZl bZR bZQ aZ6 aZ5 bZm bZk
attribute [local go_sem] Go.Proofs.YtbnplhmmbnmagaaX.binOp_leq Go.Proofs.YtbnplhmmbnmagaaX.binOp_geq Go.Proofs.YtbnplhmmbnmagaaX.binOp_gtr
def berthref20_sameTexts.f (k:Nat) (l0:List ByteArray) (l1:List ByteArray):Option (Bool):=(berthref20_LessTexts.f k l0 l1).bind fun t409=>(if t409=true then (some false) else ((berthref20_LessTexts.f k l1 l0).bind fun t410=>(some (!t410))))
theorem berthref20_sameTexts.calls (k:Nat) (A0:Option Addr) (c0:Nat) (l0:List ByteArray) (A1:Option Addr) (c1:Nat) (l1:List ByteArray) (r:Bool) (w:World) (hr0:Kd.C Kd.string w A0 l0.length l0) (hc0:l0.length≤c0) (hr1:Kd.C Kd.string w A1 l1.length l1) (hc1:l1.length≤c1) (h:berthref20_sameTexts.f k l0 l1=some r) :
 Calls Try.prog 33 #[.slice A0 l0.length c0,.slice A1 l1.length c1] w fun e w'=>e=.returned (.bool r)∧Drawn0 w w':=by
 have HR0:=Aside0.mk hr0
 have HC0:=Aside0.mk hc0
 clear hr0 hc0
 have HR1:=Aside0.mk hr1
 have HC1:=Aside0.mk hc1
 clear hr1 hc1
 have H:((berthref20_LessTexts.f k l0 l1).bind fun t409=>(if t409=true then (some false) else ((berthref20_LessTexts.f k l1 l0).bind fun t410=>(some (!t410)))))=some r:=h
 clear h
 replace H:=Option.bind_eq_some_iff.mp H
 obtain ⟨t409,A30,H⟩:=H
 replace H:(if t409=true then (some false) else ((berthref20_LessTexts.f k l1 l0).bind fun t410=>(some (!t410))))=some r:=H
 have A3:=Aside0.mk A30
 clear A30
 by_cases c4:t409=true
 ·
  subst c4
  have H1:(some false)=some r:=by rw [if_pos rfl] at H;exact H
  clear H
  have H:=H1
  clear H1
  obtain rfl:=Option.some.inj H
  go_enter Try.func33,Try.ntmps33
  go_wp2_with (((with_reducible refine aZk (f:=67) rfl ?_);refine aZK (some 7) rfl rfl Try.func67 (by kernel_rfl) rfl #[.slice A0 l0.length c0,.slice A1 l1.length c1] rfl (by (try simp only [List.map_toArray,List.map_cons,List.map_nil]);rfl) ?_;(with_reducible refine (berthref20_LessTexts.calls k _ _ l0 _ _ l1 true _ ?side1 ?side2 ?side3 ?side4 A3.out).mono ?_);(case side1=>repeat (exact HR0.out));(case side2=>exact HC0.out);(case side3=>repeat (exact HR1.out));(case side4=>exact HC1.out);rintro e w' ⟨rfl,⟨nd,rfl⟩⟩;refine ⟨_,rfl,?_⟩))
  go_ret
  exact ⟨by rfl,by repeat (first|exact Drawn0.refl _|apply Drawn0.step)⟩
 ·
  replace c4:=Bool.eq_false_iff.mpr c4
  subst c4
  have H1:((berthref20_LessTexts.f k l1 l0).bind fun t410=>(some (!t410)))=some r:=by rw [if_neg (show ¬(false=true) by decide)] at H;exact H
  clear H
  have H:=H1
  clear H1
  replace H:=Option.bind_eq_some_iff.mp H
  obtain ⟨t410,A50,H⟩:=H
  replace H:(some (!t410))=some r:=H
  have A5:=Aside0.mk A50
  clear A50
  obtain rfl:=Option.some.inj H
  go_enter Try.func33,Try.ntmps33
  go_wp2_with (first|((with_reducible refine aZk (f:=67) rfl ?_);refine aZK (some 7) rfl rfl Try.func67 (by kernel_rfl) rfl #[.slice A0 l0.length c0,.slice A1 l1.length c1] rfl (by (try simp only [List.map_toArray,List.map_cons,List.map_nil]);rfl) ?_;(with_reducible refine (berthref20_LessTexts.calls k _ _ l0 _ _ l1 false _ ?side1 ?side2 ?side3 ?side4 A3.out).mono ?_);(case side1=>repeat (exact HR0.out));(case side2=>exact HC0.out);(case side3=>repeat (exact HR1.out));(case side4=>exact HC1.out);rintro e w' ⟨rfl,⟨nd,rfl⟩⟩;refine ⟨_,rfl,?_⟩)|(go_at_call 67;(with_reducible refine (berthref20_LessTexts.calls k _ _ l1 _ _ l0 t410 _ ?side1 ?side2 ?side3 ?side4 A5.out).mono ?_);(case side1=>repeat (exact HR1.out));(case side2=>exact HC1.out);(case side3=>repeat (exact HR0.out));(case side4=>exact HC0.out);rintro e w' ⟨rfl,⟨nd,rfl⟩⟩))
  go_ret
  exact ⟨by rfl,by repeat (first|exact Drawn0.refl _|apply Drawn0.step)⟩
def berthref20_sameNums.f (k:Nat) (l0:List Int) (l1:List Int):Option (Bool):=(berthref20_LessNums.f k l0 l1).bind fun t411=>(if t411=true then (some false) else ((berthref20_LessNums.f k l1 l0).bind fun t412=>(some (!t412))))
theorem berthref20_sameNums.calls (k:Nat) (A0:Option Addr) (c0:Nat) (l0:List Int) (A1:Option Addr) (c1:Nat) (l1:List Int) (r:Bool) (w:World) (hr0:Kd.C (Kd.int .i64) w A0 l0.length l0) (hc0:l0.length≤c0) (hr1:Kd.C (Kd.int .i64) w A1 l1.length l1) (hc1:l1.length≤c1) (h:berthref20_sameNums.f k l0 l1=some r) :
 Calls Try.prog 34 #[.slice A0 l0.length c0,.slice A1 l1.length c1] w fun e w'=>e=.returned (.bool r)∧Drawn0 w w':=by
 have HR0:=Aside0.mk hr0
 have HC0:=Aside0.mk hc0
 clear hr0 hc0
 have HR1:=Aside0.mk hr1
 have HC1:=Aside0.mk hc1
 clear hr1 hc1
 have H:((berthref20_LessNums.f k l0 l1).bind fun t411=>(if t411=true then (some false) else ((berthref20_LessNums.f k l1 l0).bind fun t412=>(some (!t412)))))=some r:=h
 clear h
 replace H:=Option.bind_eq_some_iff.mp H
 obtain ⟨t411,A30,H⟩:=H
 replace H:(if t411=true then (some false) else ((berthref20_LessNums.f k l1 l0).bind fun t412=>(some (!t412))))=some r:=H
 have A3:=Aside0.mk A30
 clear A30
 by_cases c4:t411=true
 ·
  subst c4
  have H1:(some false)=some r:=by rw [if_pos rfl] at H;exact H
  clear H
  have H:=H1
  clear H1
  obtain rfl:=Option.some.inj H
  go_enter Try.func34,Try.ntmps34
  go_wp2_with (((with_reducible refine aZk (f:=68) rfl ?_);refine aZK (some 7) rfl rfl Try.func68 (by kernel_rfl) rfl #[.slice A0 l0.length c0,.slice A1 l1.length c1] rfl (by (try simp only [List.map_toArray,List.map_cons,List.map_nil]);rfl) ?_;(with_reducible refine (berthref20_LessNums.calls k _ _ l0 _ _ l1 true _ ?side1 ?side2 ?side3 ?side4 A3.out).mono ?_);(case side1=>repeat (exact HR0.out));(case side2=>exact HC0.out);(case side3=>repeat (exact HR1.out));(case side4=>exact HC1.out);rintro e w' ⟨rfl,⟨nd,rfl⟩⟩;refine ⟨_,rfl,?_⟩))
  go_ret
  exact ⟨by rfl,by repeat (first|exact Drawn0.refl _|apply Drawn0.step)⟩
 ·
  replace c4:=Bool.eq_false_iff.mpr c4
  subst c4
  have H1:((berthref20_LessNums.f k l1 l0).bind fun t412=>(some (!t412)))=some r:=by rw [if_neg (show ¬(false=true) by decide)] at H;exact H
  clear H
  have H:=H1
  clear H1
  replace H:=Option.bind_eq_some_iff.mp H
  obtain ⟨t412,A50,H⟩:=H
  replace H:(some (!t412))=some r:=H
  have A5:=Aside0.mk A50
  clear A50
  obtain rfl:=Option.some.inj H
  go_enter Try.func34,Try.ntmps34
  go_wp2_with (first|((with_reducible refine aZk (f:=68) rfl ?_);refine aZK (some 7) rfl rfl Try.func68 (by kernel_rfl) rfl #[.slice A0 l0.length c0,.slice A1 l1.length c1] rfl (by (try simp only [List.map_toArray,List.map_cons,List.map_nil]);rfl) ?_;(with_reducible refine (berthref20_LessNums.calls k _ _ l0 _ _ l1 false _ ?side1 ?side2 ?side3 ?side4 A3.out).mono ?_);(case side1=>repeat (exact HR0.out));(case side2=>exact HC0.out);(case side3=>repeat (exact HR1.out));(case side4=>exact HC1.out);rintro e w' ⟨rfl,⟨nd,rfl⟩⟩;refine ⟨_,rfl,?_⟩)|(go_at_call 68;(with_reducible refine (berthref20_LessNums.calls k _ _ l1 _ _ l0 t412 _ ?side1 ?side2 ?side3 ?side4 A5.out).mono ?_);(case side1=>repeat (exact HR1.out));(case side2=>exact HC1.out);(case side3=>repeat (exact HR0.out));(case side4=>exact HC0.out);rintro e w' ⟨rfl,⟨nd,rfl⟩⟩))
  go_ret
  exact ⟨by rfl,by repeat (first|exact Drawn0.refl _|apply Drawn0.step)⟩
end Go.Proofs.Ytbnplhmmbnmagaa.All
