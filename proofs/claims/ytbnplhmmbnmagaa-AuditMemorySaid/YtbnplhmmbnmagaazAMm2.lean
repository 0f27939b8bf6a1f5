/- A part of the proof of AuditMemory: walks written by a program of this session. -/
import Derived.Test.YtbnplhmmbnmagaaProg
import Derived.Below
import Derived.Deep.Draws
import Derived.Deep.AppendLies
import Derived.Maps.AppendAt
import Derived.OwnWalk
import Derived.Laws.BytesArg
import Derived.Laws.MakeOwn
import Derived.Laws.OwnMore
import Derived.Deep.OwnRows
import Derived.Tactics
import Derived.Lib.ConvBytes
import Derived.Laws.Slices
import Derived.WalkKit
import Derived.KernelRfl
import Derived.RowKit3
import Derived.Deep.LoopGhost
import Derived.Deep.QuietTactic
import Derived.BigQuiet
import Derived.WideLaws
import Derived.Deep.DeepCutAuto
import Derived.Deep.CutBlock
import Derived.Deep.RegionHeld3
import Derived.Laws.Rows
import Derived.Lib.AppendStr
import Derived.ArgAppend
import Derived.Laws.IdiomCopy
import Derived.OrdersHeld
import Derived.Laws.BitsLemmas
import Derived.RowKit
import Derived.LoopN
import Derived.Handy
import Derived.BigRegion
import Derived.Test.YtbnplhmmbnmagaazAMw0
set_option maxHeartbeats 4000000
set_option maxRecDepth 100000
set_option linter.all false
namespace Go.Proofs.Ytbnplhmmbnmagaa.All
open Go.RowKit Go.Proofs.YtbnplhmmbnmagaaW.PrintWords Go.Proofs.YtbnplhmmbnmagaaW.PrintLast Go.Proofs.YtbnplhmmbnmagaaW.PrintMore
attribute [local go_sem] bZN bZL cZj cZh bZn bZm bZM bZK
attribute [local go_sem] Go.Proofs.YtbnplhmmbnmagaaX.binOp_leq Go.Proofs.YtbnplhmmbnmagaaX.binOp_geq Go.Proofs.YtbnplhmmbnmagaaX.binOp_gtr
theorem info3:(Try.prog.info? 3).map (fun i=>(i.zero,i.size,i.bytes))=some (some (.int .i64 0),1,8):=by kernel_rfl
theorem info5:(Try.prog.info? 5).map (fun i=>(i.zero,i.size,i.bytes))=some (some (.int .u8 0),1,1):=by kernel_rfl
theorem info9:(Try.prog.info? 9).map (fun i=>(i.zero,i.size,i.bytes))=some (some (.string ⟨#[]⟩),1,16):=by kernel_rfl
theorem info22:(Try.prog.info? 22).map (fun i=>(i.zero,i.size,i.bytes))=some (some (.slice none 0 0),1,24):=by kernel_rfl
theorem info23:(Try.prog.info? 23).map (fun i=>(i.zero,i.size,i.bytes))=some (some (.slice none 0 0),1,24):=by kernel_rfl
theorem info66:(Try.prog.info? 66).map (fun i=>(i.zero,i.size,i.bytes))=some (some (.agg #[(.int .i64 0),(.int .i64 0),(.int .i64 0),(.int .i64 0)]),4,32):=by kernel_rfl
theorem info73:(Try.prog.info? 73).map (fun i=>(i.zero,i.size,i.bytes))=some (some (.int .i64 0),1,8):=by kernel_rfl
structure S165 where
  f0:ByteArray
  f1:ByteArray
  f2:ByteArray
def z165:S165:=⟨(⟨#[]⟩:ByteArray),(⟨#[]⟩:ByteArray),(⟨#[]⟩:ByteArray)⟩
def k165:Kd S165:=Kd.iso (Kd.pair Kd.string (Kd.pair Kd.string Kd.string)) (fun x:S165=>(x.f0,x.f1,x.f2))
theorem k165_open {w:World} {x:S165} {cs:List Value} (h:k165.K w x cs):cs=[.string x.f0,.string x.f1,.string x.f2]:=by
  obtain ⟨_,_,rfl,rfl,⟨_,_,rfl,rfl,rfl⟩⟩:=h
  exact rfl
theorem k165_mkM (w:World) (base:Nat) (ok:Nat→Prop) (x:S165) :k165.M w base ok x [.string x.f0,.string x.f1,.string x.f2]:=⟨[.string x.f0],[.string x.f1,.string x.f2],rfl,rfl,⟨[.string x.f1],[.string x.f2],rfl,rfl,rfl⟩⟩
def aZg (xs:List S165) (i:Int):S165:=xs.getD i.toNat z165
theorem cZZ {w:World} {A:Option Addr} {n:Nat} {xs:List S165} (h:Kd.C k165 w A n xs) (i:Int) (h0:0≤i) (h1:i<n):∃ ad ,A=some ad∧w.cell? (ad.add (i.toNat*3))=some (.string (aZg xs i).f0)∧w.cell? ⟨(ad.add (i.toNat*3)).block,(ad.add (i.toNat*3)).off+1,none⟩=some (.string (aZg xs i).f1)∧w.cell? ⟨(ad.add (i.toNat*3)).block,(ad.add (i.toNat*3)).off+2,none⟩=some (.string (aZg xs i).f2):=by
  obtain ⟨ad,c,e,_,hK,hc0⟩:=Kd.C_get h z165 i h0 h1
  have hc:∀ j u,c[j]?=some u→w.cell? (ad.add (i.toNat*3+j))=some u:=hc0
  obtain rfl:=k165_open hK
  exact ⟨ad,e,hc 0 _ rfl,by rw [←cZO _ _ 1 (by omega)];exact hc 1 _ rfl,by rw [←cZO _ _ 2 (by omega)];exact hc 2 _ rfl⟩
def hZZ (xs:List (List ByteArray)) (i:Int):(List ByteArray):=xs.getD i.toNat ([]:List ByteArray)
theorem at_L3 {w:World} {A:Option Addr} {n:Nat} {xs:List (List ByteArray)} (h:Kd.C (Kd.slice 9 Kd.string) w A n xs) (i:Int) (h0:0≤i) (h1:i<n):∃ ad A0 c0,A=some ad∧w.cell? (ad.add i.toNat)=some (.slice A0 (hZZ xs i).length c0)∧(hZZ xs i).length≤c0∧Kd.string.C w A0 (hZZ xs i).length (hZZ xs i):=by
  obtain ⟨ad,c,e,_,hK,hc0⟩:=Kd.C_get h ([]:List ByteArray) i h0 h1
  have hc:∀ j u,c[j]?=some u→w.cell? (ad.add (i.toNat*1+j))=some u:=hc0
  obtain ⟨A0,c0,rfl,l0,g0⟩:=hK
  exact ⟨ad,A0,c0,e,by have hq:=hc 0 _ rfl;rwa [Nat.mul_one,Nat.add_zero] at hq,l0,g0⟩
def gZg (xs:List (List Int)) (i:Int):(List Int):=xs.getD i.toNat ([]:List Int)
theorem at_L4 {w:World} {A:Option Addr} {n:Nat} {xs:List (List Int)} (h:Kd.C (Kd.slice 3 (Kd.int .i64)) w A n xs) (i:Int) (h0:0≤i) (h1:i<n):∃ ad A0 c0,A=some ad∧w.cell? (ad.add i.toNat)=some (.slice A0 (gZg xs i).length c0)∧(gZg xs i).length≤c0∧(Kd.int .i64).C w A0 (gZg xs i).length (gZg xs i):=by
  obtain ⟨ad,c,e,_,hK,hc0⟩:=Kd.C_get h ([]:List Int) i h0 h1
  have hc:∀ j u,c[j]?=some u→w.cell? (ad.add (i.toNat*1+j))=some u:=hc0
  obtain ⟨A0,c0,rfl,l0,g0⟩:=hK
  exact ⟨ad,A0,c0,e,by have hq:=hc 0 _ rfl;rwa [Nat.mul_one,Nat.add_zero] at hq,l0,g0⟩
structure S66 where
  f0:Int
  f1:Int
  f2:Int
  f3:Int
def z66:S66:=⟨(0:Int),(0:Int),(0:Int),(0:Int)⟩
def k66:Kd S66:=Kd.iso (Kd.pair (Kd.int .i64) (Kd.pair (Kd.int .i64) (Kd.pair (Kd.int .i64) (Kd.int .i64)))) (fun x:S66=>(x.f0,x.f1,x.f2,x.f3))
theorem eZq {w:World} {x:S66} {cs:List Value} (h:k66.K w x cs):cs=[.int .i64 x.f0,.int .i64 x.f1,.int .i64 x.f2,.int .i64 x.f3]:=by
  obtain ⟨_,_,rfl,rfl,⟨_,_,rfl,rfl,⟨_,_,rfl,rfl,rfl⟩⟩⟩:=h
  exact rfl
theorem dZM (w:World) (x:S66) :k66.K w x [.int .i64 x.f0,.int .i64 x.f1,.int .i64 x.f2,.int .i64 x.f3]:=⟨[.int .i64 x.f0],[.int .i64 x.f1,.int .i64 x.f2,.int .i64 x.f3],rfl,rfl,⟨[.int .i64 x.f1],[.int .i64 x.f2,.int .i64 x.f3],rfl,rfl,⟨[.int .i64 x.f2],[.int .i64 x.f3],rfl,rfl,rfl⟩⟩⟩
theorem k66_mkM (w:World) (base:Nat) (ok:Nat→Prop) (x:S66) :k66.M w base ok x [.int .i64 x.f0,.int .i64 x.f1,.int .i64 x.f2,.int .i64 x.f3]:=⟨[.int .i64 x.f0],[.int .i64 x.f1,.int .i64 x.f2,.int .i64 x.f3],rfl,rfl,⟨[.int .i64 x.f1],[.int .i64 x.f2,.int .i64 x.f3],rfl,rfl,⟨[.int .i64 x.f2],[.int .i64 x.f3],rfl,rfl,rfl⟩⟩⟩
def aZi (xs:List S66) (i:Int):S66:=xs.getD i.toNat z66
theorem eZY {w:World} {A:Option Addr} {n:Nat} {xs:List S66} (h:Kd.C k66 w A n xs) (i:Int) (h0:0≤i) (h1:i<n):∃ ad ,A=some ad∧w.cell? (ad.add (i.toNat*4))=some (.int .i64 (aZi xs i).f0)∧w.cell? ⟨(ad.add (i.toNat*4)).block,(ad.add (i.toNat*4)).off+1,none⟩=some (.int .i64 (aZi xs i).f1)∧w.cell? ⟨(ad.add (i.toNat*4)).block,(ad.add (i.toNat*4)).off+2,none⟩=some (.int .i64 (aZi xs i).f2)∧w.cell? ⟨(ad.add (i.toNat*4)).block,(ad.add (i.toNat*4)).off+3,none⟩=some (.int .i64 (aZi xs i).f3):=by
  obtain ⟨ad,c,e,_,hK,hc0⟩:=Kd.C_get h z66 i h0 h1
  have hc:∀ j u,c[j]?=some u→w.cell? (ad.add (i.toNat*4+j))=some u:=hc0
  obtain rfl:=eZq hK
  exact ⟨ad,e,hc 0 _ rfl,by rw [←cZO _ _ 1 (by omega)];exact hc 1 _ rfl,by rw [←cZO _ _ 2 (by omega)];exact hc 2 _ rfl,by rw [←cZO _ _ 3 (by omega)];exact hc 3 _ rfl⟩
end Go.Proofs.Ytbnplhmmbnmagaa.All
namespace Go.Proofs.Ytbnplhmmbnmagaa.All
open Go.RowKit Go.Proofs.YtbnplhmmbnmagaaW.PrintWords Go.Proofs.YtbnplhmmbnmagaaW.PrintLast Go.Proofs.YtbnplhmmbnmagaaW.PrintMore
attribute [local go_sem] bZN bZL cZj cZh bZn bZm bZM bZK
attribute [local go_sem] Go.Proofs.YtbnplhmmbnmagaaX.binOp_leq Go.Proofs.YtbnplhmmbnmagaaX.binOp_geq Go.Proofs.YtbnplhmmbnmagaaX.binOp_gtr
def rowsLit:List S165:=[⟨⟨#[]⟩,⟨#[]⟩,⟨#[]⟩⟩,⟨⟨#[117,45,45]⟩,⟨#[]⟩,⟨#[85]⟩⟩,⟨⟨#[117,45,45]⟩,⟨#[]⟩,⟨#[85]⟩⟩,⟨⟨#[116,45,45]⟩,⟨#[]⟩,⟨#[84]⟩⟩,⟨⟨#[115,45,45]⟩,⟨#[]⟩,⟨#[83]⟩⟩,⟨⟨#[110,45,45]⟩,⟨#[]⟩,⟨#[73]⟩⟩,⟨⟨#[109,45,45]⟩,⟨#[]⟩,⟨#[77]⟩⟩,⟨⟨#[116,45,45]⟩,⟨#[]⟩,⟨#[84]⟩⟩,⟨⟨#[45,45,45]⟩,⟨#[]⟩,⟨#[84]⟩⟩,⟨⟨#[45,45,45]⟩,⟨#[]⟩,⟨#[83]⟩⟩,⟨⟨#[45,45,45]⟩,⟨#[84]⟩,⟨#[83]⟩⟩,⟨⟨#[45,45,45]⟩,⟨#[84]⟩,⟨#[73]⟩⟩,⟨⟨#[117,116,45]⟩,⟨#[83]⟩,⟨#[85]⟩⟩,⟨⟨#[117,45,45]⟩,⟨#[83]⟩,⟨#[85]⟩⟩,⟨⟨#[117,45,45]⟩,⟨#[83]⟩,⟨#[85]⟩⟩,⟨⟨#[45,45,45]⟩,⟨#[83]⟩,⟨#[78]⟩⟩,⟨⟨#[117,116,99]⟩,⟨#[73]⟩,⟨#[85]⟩⟩,⟨⟨#[117,116,45]⟩,⟨#[77]⟩,⟨#[85]⟩⟩,⟨⟨#[45,116,99]⟩,⟨#[73]⟩,⟨#[78]⟩⟩,⟨⟨#[45,116,45]⟩,⟨#[77]⟩,⟨#[78]⟩⟩,⟨⟨#[45,116,99]⟩,⟨#[80,73]⟩,⟨#[78]⟩⟩,⟨⟨#[45,116,45]⟩,⟨#[80,77]⟩,⟨#[78]⟩⟩,⟨⟨#[45,116,45]⟩,⟨#[80]⟩,⟨#[78]⟩⟩,⟨⟨#[45,116,45]⟩,⟨#[]⟩,⟨#[78]⟩⟩,⟨⟨#[117,45,45]⟩,⟨#[84,83]⟩,⟨#[85]⟩⟩,⟨⟨#[117,45,99]⟩,⟨#[73,73]⟩,⟨#[85]⟩⟩,⟨⟨#[117,45,45]⟩,⟨#[73,77]⟩,⟨#[85]⟩⟩,⟨⟨#[45,45,45]⟩,⟨#[66,66]⟩,⟨#[61]⟩⟩,⟨⟨#[45,45,45]⟩,⟨#[66,66]⟩,⟨#[61]⟩⟩,⟨⟨#[45,45,45]⟩,⟨#[66,66]⟩,⟨#[61]⟩⟩,⟨⟨#[45,45,45]⟩,⟨#[66]⟩,⟨#[61]⟩⟩,⟨⟨#[108,45,45]⟩,⟨#[66]⟩,⟨#[]⟩⟩,⟨⟨#[108,45,45]⟩,⟨#[]⟩,⟨#[76]⟩⟩,⟨⟨#[106,45,45]⟩,⟨#[66]⟩,⟨#[61]⟩⟩,⟨⟨#[106,45,45]⟩,⟨#[66]⟩,⟨#[61]⟩⟩,⟨⟨#[45,45,45]⟩,⟨#[42]⟩,⟨#[]⟩⟩,⟨⟨#[45,45,45]⟩,⟨#[78]⟩,⟨#[]⟩⟩]
def audit_rows.f:Option (List S165):=some rowsLit
theorem gZq (w:World) (base:Nat) (ok:Nat→Prop):∀ l:List S165,Reps (k165.M w base ok) 3 l (l.flatMap fun x=>[.string x.f0,.string x.f1,.string x.f2])
  | []=>Reps.none _ _
  | x :: l=>Reps.c3 (k165_mkM w base ok x) (gZq w base ok l)
theorem audit_rows.calls (r:List (S165)) (w:World) (h:audit_rows.f=some r) :
 Calls Try.prog 54 #[] w fun e w'=>∃ v0_:Value,e=.returned (v0_)∧Kd.R k165 165 w' w.heap.size (fun _=>True) v0_ r∧Below w.heap.size w w':=by
 have hu165:=Try.underlying165
 obtain rfl:=Option.some.inj h
 go_enter Try.func54,Try.ntmps54
 go_wp2_with (((with_reducible refine cZq (N:=38) rfl ?_);refine Kd.R_lit k165 _ 165 ?hg (N:=38) ?hd (xs:=rowsLit) (inner:=?inner) (ok:=fun _=>True) (okp:=fun _=>True) ?hr ?hp (fun _ hk=>hk) trivial (Below.refl _ _) (Nat.le_refl _) (by decide) ?_;(case hd=>rfl);(case hg=>rfl);(case hr=>(go_simp;refine ⟨rfl,?_⟩;rfl));(case hp=>exact gZq _ _ _ rowsLit);intro v102 w1 ho2 hb hg_ hnew_;clear hg_ hnew_;have HO:=Aside0.mk ho2;have HB:=Aside0.mk hb;clear ho2 hb))
 go_ret
 exact ⟨_,rfl,HO.out,HB.out⟩
def api_Cell_105.l0:Nat→List Int→List Int→Int→Int→Option (Bool)
  | 0,_,_,_,_=>none
  | k+1,x0,x1,x12,x13=>if x13<x12 then (if 0≤x13 then (if x13<(x0.length:Int) then (if x13<(x1.length:Int) then (if (rd x0 x13)=(rd x1 x13) then (api_Cell_105.l0 k x0 x1 x12 (wrap64 (x13+1))) else (some false)) else (none)) else (none)) else (none)) else (some true)
def api_Cell_105.f (k:Nat) (l0:List Int) (l1:List Int):Option (Bool):=if (l0.length:Int)=(l1.length:Int) then (api_Cell_105.l0 k l0 l1 (l0.length:Int) 0) else (some false)
theorem api_Cell_105.calls (k:Nat) (A0:Option Addr) (c0:Nat) (l0:List Int) (A1:Option Addr) (c1:Nat) (l1:List Int) (r:Bool) (w:World) (hr0:Kd.C (Kd.int .i64) w A0 l0.length l0) (hc0:l0.length≤c0) (hr1:Kd.C (Kd.int .i64) w A1 l1.length l1) (hc1:l1.length≤c1) (h:api_Cell_105.f k l0 l1=some r) :
 Calls Try.prog 105 #[.slice A0 l0.length c0,.slice A1 l1.length c1] w fun e w'=>e=.returned (.bool r)∧Drawn0 w w':=by
 have HR0:=Aside0.mk hr0
 have HC0:=Aside0.mk hc0
 clear hr0 hc0
 have HR1:=Aside0.mk hr1
 have HC1:=Aside0.mk hc1
 clear hr1 hc1
 have H:(if (l0.length:Int)=(l1.length:Int) then (api_Cell_105.l0 k l0 l1 (l0.length:Int) 0) else (some false))=some r:=h
 clear h
 by_cases c3:(l0.length:Int)=(l1.length:Int)
 ·
  rw [if_pos c3] at H
  have c3b0:((l0.length:Int) == (l1.length:Int))=true:=beq_iff_eq.mpr c3
  have c3b1:((l0.length:Int) != (l1.length:Int))=false:=bne_eq_false_iff_eq.mpr c3
  have c3b2:(l0.length == l1.length)=true:=by (simp at c3 ⊢;omega)
  clear c3
  have H':=Aside0.mk H
  clear H
  go_enter Try.func105,Try.ntmps105
  go_wp2
  repeat (go_quiet (fail);try go_wp2)
  go_loopg [13] k (fun kq v13 w'=>∃ (x13_1:Int),v13=.int .i64 x13_1∧Aside0 (api_Cell_105.l0 kq l0 l1 (l0.length:Int) x13_1=some r)∧Aside0 (kq≤k)∧Drawn0 w w')
  case atStart=>exact ⟨(0),(by rfl),H',⟨Nat.le_refl _⟩,by repeat (exact Drawn0.refl _)⟩
  case round =>
   clear H'
   (try clear c1);(try clear p2);(try clear c3);(try clear c3b0);(try clear c3b1);(try clear c3b2)
   obtain ⟨x13_1,rfl,HA,HK1,⟨m1,rfl⟩⟩:=hrel
   cases gk with
   | zero=>exact absurd HA.out (by simp [api_Cell_105.l0])
   | succ k1 =>
    have H:=HA.out
    clear HA
    simp only [api_Cell_105.l0] at H
    by_cases c4:x13_1<(l0.length:Int)
    ·
     rw [if_pos c4] at H
     have c4b0:decide (x13_1<(l0.length:Int))=true:=decide_eq_true c4
     clear c4
     by_cases c5:0≤x13_1
     ·
      rw [if_pos c5] at H
      have c5b0:decide (0≤x13_1)=true:=decide_eq_true c5
      clear c5
      by_cases c6:x13_1<(l0.length:Int)
      ·
       rw [if_pos c6] at H
       have c6b0:decide (x13_1<(l0.length:Int))=true:=decide_eq_true c6
       clear c6
       by_cases c7:x13_1<(l1.length:Int)
       ·
        rw [if_pos c7] at H
        have c7b0:decide (x13_1<(l1.length:Int))=true:=decide_eq_true c7
        clear c7
        by_cases c8:(rd l0 x13_1)=(rd l1 x13_1)
        ·
         rw [if_pos c8] at H
         have c8b0:((rd l0 x13_1) == (rd l1 x13_1))=true:=beq_iff_eq.mpr c8
         have c8b1:((rd l0 x13_1) != (rd l1 x13_1))=false:=bne_eq_false_iff_eq.mpr c8
         clear c8
         have H':=Aside0.mk H
         clear H
         have p104:0≤(x13_1:Int):=of_decide_eq_true (by (with_reducible assumption))
         have q104:x13_1<(l0.length:Int):=of_decide_eq_true (by (with_reducible assumption))
         obtain ⟨ad104,e104,hx104_0⟩:=Kd.at_int HR0.out x13_1 p104 q104
         cases e104
         replace p104:=eq_true p104
         replace q104:=eq_true q104
         have p105:0≤(x13_1:Int):=of_decide_eq_true (by (with_reducible assumption))
         have q105:x13_1<(l1.length:Int):=of_decide_eq_true (by (with_reducible assumption))
         obtain ⟨ad105,e105,hx105_0⟩:=Kd.at_int HR1.out x13_1 p105 q105
         cases e105
         replace p105:=eq_true p105
         replace q105:=eq_true q105
         go_wp2
         repeat (go_quiet (fail);try go_wp2)
         go_roundg k1
         case measure=>have:=HK1.out;omega
         case rel=>exact ⟨(wrap64 (x13_1+1)),(by rfl),H',⟨by have:=HK1.out;omega⟩,by repeat (first|exact Drawn0.refl _|apply Drawn0.step)⟩
        ·
         rw [if_neg c8] at H
         have c8b0:((rd l0 x13_1) == (rd l1 x13_1))=false:=beq_eq_false_iff_ne.mpr c8
         have c8b1:((rd l0 x13_1) != (rd l1 x13_1))=true:=bne_iff_ne.mpr c8
         obtain rfl:=Option.some.inj H
         have p104:0≤(x13_1:Int):=of_decide_eq_true (by (with_reducible assumption))
         have q104:x13_1<(l0.length:Int):=of_decide_eq_true (by (with_reducible assumption))
         obtain ⟨ad104,e104,hx104_0⟩:=Kd.at_int HR0.out x13_1 p104 q104
         cases e104
         replace p104:=eq_true p104
         replace q104:=eq_true q104
         have p105:0≤(x13_1:Int):=of_decide_eq_true (by (with_reducible assumption))
         have q105:x13_1<(l1.length:Int):=of_decide_eq_true (by (with_reducible assumption))
         obtain ⟨ad105,e105,hx105_0⟩:=Kd.at_int HR1.out x13_1 p105 q105
         cases e105
         replace p105:=eq_true p105
         replace q105:=eq_true q105
         go_wp2
         repeat (go_quiet (fail);try go_wp2)
         go_ret
         exact ⟨by rfl,by repeat (first|exact Drawn0.refl _|apply Drawn0.step)⟩
       ·
        rw [if_neg c7] at H
        exact absurd H (by simp)
      ·
       rw [if_neg c6] at H
       exact absurd H (by simp)
     ·
      rw [if_neg c5] at H
      exact absurd H (by simp)
    ·
     rw [if_neg c4] at H
     obtain rfl:=Option.some.inj H
     go_wp2
     go_ret
     exact ⟨by rfl,by repeat (first|exact Drawn0.refl _|apply Drawn0.step)⟩
 ·
  rw [if_neg c3] at H
  obtain rfl:=Option.some.inj H
  go_enter Try.func105,Try.ntmps105
  go_wp2
  go_ret
  exact ⟨by rfl,by repeat (exact Drawn0.refl _)⟩
def cmp_isNaN_string.f (a0:ByteArray):Option (Bool):=some (a0.toList != a0.toList)
theorem cmp_isNaN_string.calls (a0:ByteArray) (r:Bool) (w:World) (h:cmp_isNaN_string.f a0=some r) :
 Calls Try.prog 102 #[.string a0] w fun e w'=>e=.returned (.bool r)∧Drawn0 w w':=by
 have H:(some (a0.toList != a0.toList))=some r:=h
 clear h
 obtain rfl:=Option.some.inj H
 go_enter Try.func102,Try.ntmps102
 go_wp2
 go_ret
 exact ⟨by rfl,by repeat (exact Drawn0.refl _)⟩
def cmp_Compare_string.f (a0:ByteArray) (a1:ByteArray):Option (Int):=(cmp_isNaN_string.f a0).bind fun t111=>((cmp_isNaN_string.f a1).bind fun t112=>(if t111=true then (if t112=true then (some 0) else (some (-1))) else (if t112=true then (some 1) else (if (Op.bytesLess a0.toList a1.toList)=true then (some (-1)) else (if (Op.bytesLess a1.toList a0.toList)=true then (some 1) else (some 0))))))
theorem cmp_Compare_string.calls (a0:ByteArray) (a1:ByteArray) (r:Int) (w:World) (h:cmp_Compare_string.f a0 a1=some r) :
 Calls Try.prog 71 #[.string a0,.string a1] w fun e w'=>e=.returned (.int .i64 r)∧Drawn0 w w':=by
 have H:((cmp_isNaN_string.f a0).bind fun t111=>((cmp_isNaN_string.f a1).bind fun t112=>(if t111=true then (if t112=true then (some 0) else (some (-1))) else (if t112=true then (some 1) else (if (Op.bytesLess a0.toList a1.toList)=true then (some (-1)) else (if (Op.bytesLess a1.toList a0.toList)=true then (some 1) else (some 0)))))))=some r:=h
 clear h
 replace H:=Option.bind_eq_some_iff.mp H
 obtain ⟨t111,A30,H⟩:=H
 replace H:((cmp_isNaN_string.f a1).bind fun t112=>(if t111=true then (if t112=true then (some 0) else (some (-1))) else (if t112=true then (some 1) else (if (Op.bytesLess a0.toList a1.toList)=true then (some (-1)) else (if (Op.bytesLess a1.toList a0.toList)=true then (some 1) else (some 0))))))=some r:=H
 have A3:=Aside0.mk A30
 clear A30
 replace H:=Option.bind_eq_some_iff.mp H
 obtain ⟨t112,A40,H⟩:=H
 replace H:(if t111=true then (if t112=true then (some 0) else (some (-1))) else (if t112=true then (some 1) else (if (Op.bytesLess a0.toList a1.toList)=true then (some (-1)) else (if (Op.bytesLess a1.toList a0.toList)=true then (some 1) else (some 0)))))=some r:=H
 have A4:=Aside0.mk A40
 clear A40
 by_cases c5:t111=true
 ·
  subst c5
  have H1:(if t112=true then (some 0) else (some (-1)))=some r:=by rw [if_pos rfl] at H;exact H
  clear H
  have H:=H1
  clear H1
  by_cases c6:t112=true
  ·
   subst c6
   have H1:(some 0)=some r:=by rw [if_pos rfl] at H;exact H
   clear H
   have H:=H1
   clear H1
   obtain rfl:=Option.some.inj H
   go_enter Try.func71,Try.ntmps71
   go_wp2_with (first|((with_reducible refine aZj (f:=102) rfl ?_);refine aZN (some 8) rfl rfl Try.func102 (by kernel_rfl) rfl #[.string a0] rfl (by (try simp only [List.map_toArray,List.map_cons,List.map_nil]);rfl) ?_;(with_reducible refine (cmp_isNaN_string.calls a0 true _ A3.out).mono ?_);rintro e w' ⟨rfl,⟨nd,rfl⟩⟩;refine ⟨_,rfl,?_⟩)|((with_reducible refine aZj (f:=102) rfl ?_);refine aZN (some 10) rfl rfl Try.func102 (by kernel_rfl) rfl #[.string a1] rfl (by (try simp only [List.map_toArray,List.map_cons,List.map_nil]);rfl) ?_;(with_reducible refine (cmp_isNaN_string.calls a1 true _ A4.out).mono ?_);rintro e w' ⟨rfl,⟨nd,rfl⟩⟩;refine ⟨_,rfl,?_⟩))
   go_ret
   exact ⟨by rfl,by repeat (first|exact Drawn0.refl _|apply Drawn0.step)⟩
  ·
   replace c6:=Bool.eq_false_iff.mpr c6
   subst c6
   have H1:(some (-1))=some r:=by rw [if_neg (show ¬(false=true) by decide)] at H;exact H
   clear H
   have H:=H1
   clear H1
   obtain rfl:=Option.some.inj H
   go_enter Try.func71,Try.ntmps71
   go_wp2_with (first|((with_reducible refine aZj (f:=102) rfl ?_);refine aZN (some 8) rfl rfl Try.func102 (by kernel_rfl) rfl #[.string a0] rfl (by (try simp only [List.map_toArray,List.map_cons,List.map_nil]);rfl) ?_;(with_reducible refine (cmp_isNaN_string.calls a0 true _ A3.out).mono ?_);rintro e w' ⟨rfl,⟨nd,rfl⟩⟩;refine ⟨_,rfl,?_⟩)|((with_reducible refine aZj (f:=102) rfl ?_);refine aZN (some 10) rfl rfl Try.func102 (by kernel_rfl) rfl #[.string a1] rfl (by (try simp only [List.map_toArray,List.map_cons,List.map_nil]);rfl) ?_;(with_reducible refine (cmp_isNaN_string.calls a1 false _ A4.out).mono ?_);rintro e w' ⟨rfl,⟨nd,rfl⟩⟩;refine ⟨_,rfl,?_⟩))
   go_ret
   exact ⟨by rfl,by repeat (first|exact Drawn0.refl _|apply Drawn0.step)⟩
 ·
  replace c5:=Bool.eq_false_iff.mpr c5
  subst c5
  have H1:(if t112=true then (some 1) else (if (Op.bytesLess a0.toList a1.toList)=true then (some (-1)) else (if (Op.bytesLess a1.toList a0.toList)=true then (some 1) else (some 0))))=some r:=by rw [if_neg (show ¬(false=true) by decide)] at H;exact H
  clear H
  have H:=H1
  clear H1
  by_cases c7:t112=true
  ·
   subst c7
   have H1:(some 1)=some r:=by rw [if_pos rfl] at H;exact H
   clear H
   have H:=H1
   clear H1
   obtain rfl:=Option.some.inj H
   go_enter Try.func71,Try.ntmps71
   go_wp2_with (first|((with_reducible refine aZj (f:=102) rfl ?_);refine aZN (some 8) rfl rfl Try.func102 (by kernel_rfl) rfl #[.string a0] rfl (by (try simp only [List.map_toArray,List.map_cons,List.map_nil]);rfl) ?_;(with_reducible refine (cmp_isNaN_string.calls a0 false _ A3.out).mono ?_);rintro e w' ⟨rfl,⟨nd,rfl⟩⟩;refine ⟨_,rfl,?_⟩)|((with_reducible refine aZj (f:=102) rfl ?_);refine aZN (some 10) rfl rfl Try.func102 (by kernel_rfl) rfl #[.string a1] rfl (by (try simp only [List.map_toArray,List.map_cons,List.map_nil]);rfl) ?_;(with_reducible refine (cmp_isNaN_string.calls a1 true _ A4.out).mono ?_);rintro e w' ⟨rfl,⟨nd,rfl⟩⟩;refine ⟨_,rfl,?_⟩))
   go_ret
   exact ⟨by rfl,by repeat (first|exact Drawn0.refl _|apply Drawn0.step)⟩
  ·
   replace c7:=Bool.eq_false_iff.mpr c7
   subst c7
   have H1:(if (Op.bytesLess a0.toList a1.toList)=true then (some (-1)) else (if (Op.bytesLess a1.toList a0.toList)=true then (some 1) else (some 0)))=some r:=by rw [if_neg (show ¬(false=true) by decide)] at H;exact H
   clear H
   have H:=H1
   clear H1
   by_cases c8:(Op.bytesLess a0.toList a1.toList)=true
   ·
    rw [if_pos c8] at H
    obtain rfl:=Option.some.inj H
    go_enter Try.func71,Try.ntmps71
    go_wp2_with (first|((with_reducible refine aZj (f:=102) rfl ?_);refine aZN (some 8) rfl rfl Try.func102 (by kernel_rfl) rfl #[.string a0] rfl (by (try simp only [List.map_toArray,List.map_cons,List.map_nil]);rfl) ?_;(with_reducible refine (cmp_isNaN_string.calls a0 false _ A3.out).mono ?_);rintro e w' ⟨rfl,⟨nd,rfl⟩⟩;refine ⟨_,rfl,?_⟩)|((with_reducible refine aZj (f:=102) rfl ?_);refine aZN (some 10) rfl rfl Try.func102 (by kernel_rfl) rfl #[.string a1] rfl (by (try simp only [List.map_toArray,List.map_cons,List.map_nil]);rfl) ?_;(with_reducible refine (cmp_isNaN_string.calls a1 false _ A4.out).mono ?_);rintro e w' ⟨rfl,⟨nd,rfl⟩⟩;refine ⟨_,rfl,?_⟩))
    go_ret
    exact ⟨by rfl,by repeat (first|exact Drawn0.refl _|apply Drawn0.step)⟩
   ·
    rw [if_neg c8] at H
    by_cases c9:(Op.bytesLess a1.toList a0.toList)=true
    ·
     rw [if_pos c9] at H
     obtain rfl:=Option.some.inj H
     go_enter Try.func71,Try.ntmps71
     go_wp2_with (first|((with_reducible refine aZj (f:=102) rfl ?_);refine aZN (some 8) rfl rfl Try.func102 (by kernel_rfl) rfl #[.string a0] rfl (by (try simp only [List.map_toArray,List.map_cons,List.map_nil]);rfl) ?_;(with_reducible refine (cmp_isNaN_string.calls a0 false _ A3.out).mono ?_);rintro e w' ⟨rfl,⟨nd,rfl⟩⟩;refine ⟨_,rfl,?_⟩)|((with_reducible refine aZj (f:=102) rfl ?_);refine aZN (some 10) rfl rfl Try.func102 (by kernel_rfl) rfl #[.string a1] rfl (by (try simp only [List.map_toArray,List.map_cons,List.map_nil]);rfl) ?_;(with_reducible refine (cmp_isNaN_string.calls a1 false _ A4.out).mono ?_);rintro e w' ⟨rfl,⟨nd,rfl⟩⟩;refine ⟨_,rfl,?_⟩))
     go_ret
     exact ⟨by rfl,by repeat (first|exact Drawn0.refl _|apply Drawn0.step)⟩
    ·
     rw [if_neg c9] at H
     obtain rfl:=Option.some.inj H
     go_enter Try.func71,Try.ntmps71
     go_wp2_with (first|((with_reducible refine aZj (f:=102) rfl ?_);refine aZN (some 8) rfl rfl Try.func102 (by kernel_rfl) rfl #[.string a0] rfl (by (try simp only [List.map_toArray,List.map_cons,List.map_nil]);rfl) ?_;(with_reducible refine (cmp_isNaN_string.calls a0 false _ A3.out).mono ?_);rintro e w' ⟨rfl,⟨nd,rfl⟩⟩;refine ⟨_,rfl,?_⟩)|((with_reducible refine aZj (f:=102) rfl ?_);refine aZN (some 10) rfl rfl Try.func102 (by kernel_rfl) rfl #[.string a1] rfl (by (try simp only [List.map_toArray,List.map_cons,List.map_nil]);rfl) ?_;(with_reducible refine (cmp_isNaN_string.calls a1 false _ A4.out).mono ?_);rintro e w' ⟨rfl,⟨nd,rfl⟩⟩;refine ⟨_,rfl,?_⟩))
     go_ret
     exact ⟨by rfl,by repeat (first|exact Drawn0.refl _|apply Drawn0.step)⟩
def cmp_isNaN_int.f (a0:Int):Option (Bool):=some (a0 != a0)
theorem cmp_isNaN_int.calls (a0:Int) (r:Bool) (w:World) (h:cmp_isNaN_int.f a0=some r) :
 Calls Try.prog 103 #[.int .i64 a0] w fun e w'=>e=.returned (.bool r)∧Drawn0 w w':=by
 have H:(some (a0 != a0))=some r:=h
 clear h
 obtain rfl:=Option.some.inj H
 go_enter Try.func103,Try.ntmps103
 go_wp2
 go_ret
 exact ⟨by rfl,by repeat (exact Drawn0.refl _)⟩
def cmp_Compare_int.f (a0:Int) (a1:Int):Option (Int):=(cmp_isNaN_int.f a0).bind fun t113=>((cmp_isNaN_int.f a1).bind fun t114=>(if t113=true then (if t114=true then (some 0) else (some (-1))) else (if t114=true then (some 1) else (if a0<a1 then (some (-1)) else (if a0 > a1 then (some 1) else (some 0))))))
theorem cmp_Compare_int.calls (a0:Int) (a1:Int) (r:Int) (w:World) (h:cmp_Compare_int.f a0 a1=some r) :
 Calls Try.prog 75 #[.int .i64 a0,.int .i64 a1] w fun e w'=>e=.returned (.int .i64 r)∧Drawn0 w w':=by
 have H:((cmp_isNaN_int.f a0).bind fun t113=>((cmp_isNaN_int.f a1).bind fun t114=>(if t113=true then (if t114=true then (some 0) else (some (-1))) else (if t114=true then (some 1) else (if a0<a1 then (some (-1)) else (if a0 > a1 then (some 1) else (some 0)))))))=some r:=h
 clear h
 replace H:=Option.bind_eq_some_iff.mp H
 obtain ⟨t113,A30,H⟩:=H
 replace H:((cmp_isNaN_int.f a1).bind fun t114=>(if t113=true then (if t114=true then (some 0) else (some (-1))) else (if t114=true then (some 1) else (if a0<a1 then (some (-1)) else (if a0 > a1 then (some 1) else (some 0))))))=some r:=H
 have A3:=Aside0.mk A30
 clear A30
 replace H:=Option.bind_eq_some_iff.mp H
 obtain ⟨t114,A40,H⟩:=H
 replace H:(if t113=true then (if t114=true then (some 0) else (some (-1))) else (if t114=true then (some 1) else (if a0<a1 then (some (-1)) else (if a0 > a1 then (some 1) else (some 0)))))=some r:=H
 have A4:=Aside0.mk A40
 clear A40
 by_cases c5:t113=true
 ·
  subst c5
  have H1:(if t114=true then (some 0) else (some (-1)))=some r:=by rw [if_pos rfl] at H;exact H
  clear H
  have H:=H1
  clear H1
  by_cases c6:t114=true
  ·
   subst c6
   have H1:(some 0)=some r:=by rw [if_pos rfl] at H;exact H
   clear H
   have H:=H1
   clear H1
   obtain rfl:=Option.some.inj H
   go_enter Try.func75,Try.ntmps75
   go_wp2_with (first|((with_reducible refine aZj (f:=103) rfl ?_);refine aZN (some 8) rfl rfl Try.func103 (by kernel_rfl) rfl #[.int .i64 a0] rfl (by (try simp only [List.map_toArray,List.map_cons,List.map_nil]);rfl) ?_;(with_reducible refine (cmp_isNaN_int.calls a0 true _ A3.out).mono ?_);rintro e w' ⟨rfl,⟨nd,rfl⟩⟩;refine ⟨_,rfl,?_⟩)|((with_reducible refine aZj (f:=103) rfl ?_);refine aZN (some 10) rfl rfl Try.func103 (by kernel_rfl) rfl #[.int .i64 a1] rfl (by (try simp only [List.map_toArray,List.map_cons,List.map_nil]);rfl) ?_;(with_reducible refine (cmp_isNaN_int.calls a1 true _ A4.out).mono ?_);rintro e w' ⟨rfl,⟨nd,rfl⟩⟩;refine ⟨_,rfl,?_⟩))
   go_ret
   exact ⟨by rfl,by repeat (first|exact Drawn0.refl _|apply Drawn0.step)⟩
  ·
   replace c6:=Bool.eq_false_iff.mpr c6
   subst c6
   have H1:(some (-1))=some r:=by rw [if_neg (show ¬(false=true) by decide)] at H;exact H
   clear H
   have H:=H1
   clear H1
   obtain rfl:=Option.some.inj H
   go_enter Try.func75,Try.ntmps75
   go_wp2_with (first|((with_reducible refine aZj (f:=103) rfl ?_);refine aZN (some 8) rfl rfl Try.func103 (by kernel_rfl) rfl #[.int .i64 a0] rfl (by (try simp only [List.map_toArray,List.map_cons,List.map_nil]);rfl) ?_;(with_reducible refine (cmp_isNaN_int.calls a0 true _ A3.out).mono ?_);rintro e w' ⟨rfl,⟨nd,rfl⟩⟩;refine ⟨_,rfl,?_⟩)|((with_reducible refine aZj (f:=103) rfl ?_);refine aZN (some 10) rfl rfl Try.func103 (by kernel_rfl) rfl #[.int .i64 a1] rfl (by (try simp only [List.map_toArray,List.map_cons,List.map_nil]);rfl) ?_;(with_reducible refine (cmp_isNaN_int.calls a1 false _ A4.out).mono ?_);rintro e w' ⟨rfl,⟨nd,rfl⟩⟩;refine ⟨_,rfl,?_⟩))
   go_ret
   exact ⟨by rfl,by repeat (first|exact Drawn0.refl _|apply Drawn0.step)⟩
 ·
  replace c5:=Bool.eq_false_iff.mpr c5
  subst c5
  have H1:(if t114=true then (some 1) else (if a0<a1 then (some (-1)) else (if a0 > a1 then (some 1) else (some 0))))=some r:=by rw [if_neg (show ¬(false=true) by decide)] at H;exact H
  clear H
  have H:=H1
  clear H1
  by_cases c7:t114=true
  ·
   subst c7
   have H1:(some 1)=some r:=by rw [if_pos rfl] at H;exact H
   clear H
   have H:=H1
   clear H1
   obtain rfl:=Option.some.inj H
   go_enter Try.func75,Try.ntmps75
   go_wp2_with (first|((with_reducible refine aZj (f:=103) rfl ?_);refine aZN (some 8) rfl rfl Try.func103 (by kernel_rfl) rfl #[.int .i64 a0] rfl (by (try simp only [List.map_toArray,List.map_cons,List.map_nil]);rfl) ?_;(with_reducible refine (cmp_isNaN_int.calls a0 false _ A3.out).mono ?_);rintro e w' ⟨rfl,⟨nd,rfl⟩⟩;refine ⟨_,rfl,?_⟩)|((with_reducible refine aZj (f:=103) rfl ?_);refine aZN (some 10) rfl rfl Try.func103 (by kernel_rfl) rfl #[.int .i64 a1] rfl (by (try simp only [List.map_toArray,List.map_cons,List.map_nil]);rfl) ?_;(with_reducible refine (cmp_isNaN_int.calls a1 true _ A4.out).mono ?_);rintro e w' ⟨rfl,⟨nd,rfl⟩⟩;refine ⟨_,rfl,?_⟩))
   go_ret
   exact ⟨by rfl,by repeat (first|exact Drawn0.refl _|apply Drawn0.step)⟩
  ·
   replace c7:=Bool.eq_false_iff.mpr c7
   subst c7
   have H1:(if a0<a1 then (some (-1)) else (if a0 > a1 then (some 1) else (some 0)))=some r:=by rw [if_neg (show ¬(false=true) by decide)] at H;exact H
   clear H
   have H:=H1
   clear H1
   by_cases c8:a0<a1
   ·
    rw [if_pos c8] at H
    obtain rfl:=Option.some.inj H
    go_enter Try.func75,Try.ntmps75
    go_wp2_with (first|((with_reducible refine aZj (f:=103) rfl ?_);refine aZN (some 8) rfl rfl Try.func103 (by kernel_rfl) rfl #[.int .i64 a0] rfl (by (try simp only [List.map_toArray,List.map_cons,List.map_nil]);rfl) ?_;(with_reducible refine (cmp_isNaN_int.calls a0 false _ A3.out).mono ?_);rintro e w' ⟨rfl,⟨nd,rfl⟩⟩;refine ⟨_,rfl,?_⟩)|((with_reducible refine aZj (f:=103) rfl ?_);refine aZN (some 10) rfl rfl Try.func103 (by kernel_rfl) rfl #[.int .i64 a1] rfl (by (try simp only [List.map_toArray,List.map_cons,List.map_nil]);rfl) ?_;(with_reducible refine (cmp_isNaN_int.calls a1 false _ A4.out).mono ?_);rintro e w' ⟨rfl,⟨nd,rfl⟩⟩;refine ⟨_,rfl,?_⟩))
    go_ret
    exact ⟨by rfl,by repeat (first|exact Drawn0.refl _|apply Drawn0.step)⟩
   ·
    rw [if_neg c8] at H
    by_cases c9:a0 > a1
    ·
     rw [if_pos c9] at H
     obtain rfl:=Option.some.inj H
     go_enter Try.func75,Try.ntmps75
     go_wp2_with (first|((with_reducible refine aZj (f:=103) rfl ?_);refine aZN (some 8) rfl rfl Try.func103 (by kernel_rfl) rfl #[.int .i64 a0] rfl (by (try simp only [List.map_toArray,List.map_cons,List.map_nil]);rfl) ?_;(with_reducible refine (cmp_isNaN_int.calls a0 false _ A3.out).mono ?_);rintro e w' ⟨rfl,⟨nd,rfl⟩⟩;refine ⟨_,rfl,?_⟩)|((with_reducible refine aZj (f:=103) rfl ?_);refine aZN (some 10) rfl rfl Try.func103 (by kernel_rfl) rfl #[.int .i64 a1] rfl (by (try simp only [List.map_toArray,List.map_cons,List.map_nil]);rfl) ?_;(with_reducible refine (cmp_isNaN_int.calls a1 false _ A4.out).mono ?_);rintro e w' ⟨rfl,⟨nd,rfl⟩⟩;refine ⟨_,rfl,?_⟩))
     go_ret
     exact ⟨by rfl,by repeat (first|exact Drawn0.refl _|apply Drawn0.step)⟩
    ·
     rw [if_neg c9] at H
     obtain rfl:=Option.some.inj H
     go_enter Try.func75,Try.ntmps75
     go_wp2_with (first|((with_reducible refine aZj (f:=103) rfl ?_);refine aZN (some 8) rfl rfl Try.func103 (by kernel_rfl) rfl #[.int .i64 a0] rfl (by (try simp only [List.map_toArray,List.map_cons,List.map_nil]);rfl) ?_;(with_reducible refine (cmp_isNaN_int.calls a0 false _ A3.out).mono ?_);rintro e w' ⟨rfl,⟨nd,rfl⟩⟩;refine ⟨_,rfl,?_⟩)|((with_reducible refine aZj (f:=103) rfl ?_);refine aZN (some 10) rfl rfl Try.func103 (by kernel_rfl) rfl #[.int .i64 a1] rfl (by (try simp only [List.map_toArray,List.map_cons,List.map_nil]);rfl) ?_;(with_reducible refine (cmp_isNaN_int.calls a1 false _ A4.out).mono ?_);rintro e w' ⟨rfl,⟨nd,rfl⟩⟩;refine ⟨_,rfl,?_⟩))
     go_ret
     exact ⟨by rfl,by repeat (first|exact Drawn0.refl _|apply Drawn0.step)⟩
def slices_Compare_string_string.l0:Nat→List ByteArray→List ByteArray→List ByteArray→Int→Int→Option (Int)
  | 0,_,_,_,_,_=>none
  | k+1,x0,x1,x9,x10,x11=>if x11<x10 then (if 0≤x11 then (if x11<(x9.length:Int) then (if x11≥(x1.length:Int) then (some 1) else (if x11<(x1.length:Int) then ((cmp_Compare_string.f (rdOf ByteArray.empty x9 x11) (rdOf ByteArray.empty x1 x11)).bind fun t117=>(if t117=0 then (slices_Compare_string_string.l0 k x0 x1 x9 x10 (wrap64 (x11+1))) else (some t117))) else (none))) else (none)) else (none)) else (if (x0.length:Int)<(x1.length:Int) then (some (-1)) else (some 0))
def slices_Compare_string_string.f (k:Nat) (l0:List ByteArray) (l1:List ByteArray):Option (Int):=slices_Compare_string_string.l0 k l0 l1 l0 (l0.length:Int) 0
theorem slices_Compare_string_string.calls (k:Nat) (A0:Option Addr) (c0:Nat) (l0:List ByteArray) (A1:Option Addr) (c1:Nat) (l1:List ByteArray) (r:Int) (w:World) (hr0:Kd.C Kd.string w A0 l0.length l0) (hc0:l0.length≤c0) (hr1:Kd.C Kd.string w A1 l1.length l1) (hc1:l1.length≤c1) (h:slices_Compare_string_string.f k l0 l1=some r) :
 Calls Try.prog 78 #[.slice A0 l0.length c0,.slice A1 l1.length c1] w fun e w'=>e=.returned (.int .i64 r)∧Drawn0 w w':=by
 have HR0:=Aside0.mk hr0
 have HC0:=Aside0.mk hc0
 clear hr0 hc0
 have HR1:=Aside0.mk hr1
 have HC1:=Aside0.mk hc1
 clear hr1 hc1
 have H:(slices_Compare_string_string.l0 k l0 l1 l0 (l0.length:Int) 0)=some r:=h
 clear h
 have H':=Aside0.mk H
 clear H
 go_enter Try.func78,Try.ntmps78
 go_wp2
 go_loopg [11] k (fun kq v11 w'=>∃ (x11_1:Int),v11=.int .i64 x11_1∧Aside0 (slices_Compare_string_string.l0 kq l0 l1 l0 (l0.length:Int) x11_1=some r)∧Aside0 (kq≤k)∧Drawn0 w w')
 case atStart=>exact ⟨(0),(by rfl),H',⟨Nat.le_refl _⟩,by repeat (exact Drawn0.refl _)⟩
 case round =>
  clear H'
  (try clear c1);(try clear p2)
  obtain ⟨x11_1,rfl,HA,HK1,⟨m1,rfl⟩⟩:=hrel
  cases gk with
  | zero=>exact absurd HA.out (by simp [slices_Compare_string_string.l0])
  | succ k1 =>
   have H:=HA.out
   clear HA
   simp only [slices_Compare_string_string.l0] at H
   by_cases c3:x11_1<(l0.length:Int)
   ·
    rw [if_pos c3] at H
    have c3b0:decide (x11_1<(l0.length:Int))=true:=decide_eq_true c3
    clear c3
    by_cases c4:0≤x11_1
    ·
     rw [if_pos c4] at H
     have c4b0:decide (0≤x11_1)=true:=decide_eq_true c4
     clear c4
     by_cases c5:x11_1<(l0.length:Int)
     ·
      rw [if_pos c5] at H
      have c5b0:decide (x11_1<(l0.length:Int))=true:=decide_eq_true c5
      clear c5
      by_cases c6:x11_1≥(l1.length:Int)
      ·
       rw [if_pos c6] at H
       have c6b0:decide ((l1.length:Int)≤x11_1)=true:=decide_eq_true c6
       clear c6
       obtain rfl:=Option.some.inj H
       have p115:0≤(x11_1:Int):=of_decide_eq_true (by (with_reducible assumption))
       have q115:x11_1<(l0.length:Int):=of_decide_eq_true (by (with_reducible assumption))
       obtain ⟨ad115,e115,hx115_0⟩:=Kd.at_string HR0.out x11_1 p115 q115
       cases e115
       replace p115:=eq_true p115
       replace q115:=eq_true q115
       go_wp2
       go_ret
       exact ⟨by rfl,by repeat (first|exact Drawn0.refl _|apply Drawn0.step)⟩
      ·
       rw [if_neg c6] at H
       have c6b0:decide ((l1.length:Int)≤x11_1)=false:=decide_eq_false c6
       clear c6
       by_cases c7:x11_1<(l1.length:Int)
       ·
        rw [if_pos c7] at H
        have c7b0:decide (x11_1<(l1.length:Int))=true:=decide_eq_true c7
        clear c7
        replace H:=Option.bind_eq_some_iff.mp H
        obtain ⟨t117,A80,H⟩:=H
        replace H:(if t117=0 then (slices_Compare_string_string.l0 k1 l0 l1 l0 (l0.length:Int) (wrap64 (x11_1+1))) else (some t117))=some r:=H
        have A8:=Aside0.mk A80
        clear A80
        by_cases c9:t117=0
        ·
         rw [if_pos c9] at H
         have c9b0:(t117 == 0)=true:=beq_iff_eq.mpr c9
         have c9b1:(t117 != 0)=false:=bne_eq_false_iff_eq.mpr c9
         clear c9
         have H':=Aside0.mk H
         clear H
         have p115:0≤(x11_1:Int):=of_decide_eq_true (by (with_reducible assumption))
         have q115:x11_1<(l0.length:Int):=of_decide_eq_true (by (with_reducible assumption))
         obtain ⟨ad115,e115,hx115_0⟩:=Kd.at_string HR0.out x11_1 p115 q115
         cases e115
         replace p115:=eq_true p115
         replace q115:=eq_true q115
         have p116:0≤(x11_1:Int):=of_decide_eq_true (by (with_reducible assumption))
         have q116:x11_1<(l1.length:Int):=of_decide_eq_true (by (with_reducible assumption))
         obtain ⟨ad116,e116,hx116_0⟩:=Kd.at_string HR1.out x11_1 p116 q116
         cases e116
         replace p116:=eq_true p116
         replace q116:=eq_true q116
         go_wp2_with (((with_reducible refine aZj (f:=71) rfl ?_);refine aZN (some 26) rfl rfl Try.func71 (by kernel_rfl) rfl #[.string (rdOf ByteArray.empty l0 x11_1),.string (rdOf ByteArray.empty l1 x11_1)] rfl (by (try simp only [List.map_toArray,List.map_cons,List.map_nil]);rfl) ?_;(with_reducible refine (cmp_Compare_string.calls (rdOf ByteArray.empty l0 x11_1) (rdOf ByteArray.empty l1 x11_1) t117 _ A8.out).mono ?_);rintro e w' ⟨rfl,⟨nd,rfl⟩⟩;refine ⟨_,rfl,?_⟩))
         go_roundg k1
         case measure=>have:=HK1.out;omega
         case rel=>exact ⟨(wrap64 (x11_1+1)),(by rfl),H',⟨by have:=HK1.out;omega⟩,by repeat (first|exact Drawn0.refl _|apply Drawn0.step)⟩
        ·
         rw [if_neg c9] at H
         have c9b0:(t117 == 0)=false:=beq_eq_false_iff_ne.mpr c9
         have c9b1:(t117 != 0)=true:=bne_iff_ne.mpr c9
         obtain rfl:=Option.some.inj H
         have p115:0≤(x11_1:Int):=of_decide_eq_true (by (with_reducible assumption))
         have q115:x11_1<(l0.length:Int):=of_decide_eq_true (by (with_reducible assumption))
         obtain ⟨ad115,e115,hx115_0⟩:=Kd.at_string HR0.out x11_1 p115 q115
         cases e115
         replace p115:=eq_true p115
         replace q115:=eq_true q115
         have p116:0≤(x11_1:Int):=of_decide_eq_true (by (with_reducible assumption))
         have q116:x11_1<(l1.length:Int):=of_decide_eq_true (by (with_reducible assumption))
         obtain ⟨ad116,e116,hx116_0⟩:=Kd.at_string HR1.out x11_1 p116 q116
         cases e116
         go_wp2_with (((with_reducible refine aZj (f:=71) rfl ?_);refine aZN (some 26) rfl rfl Try.func71 (by kernel_rfl) rfl #[.string (rdOf ByteArray.empty l0 x11_1),.string (rdOf ByteArray.empty l1 x11_1)] rfl (by (try simp only [List.map_toArray,List.map_cons,List.map_nil]);rfl) ?_;(with_reducible refine (cmp_Compare_string.calls (rdOf ByteArray.empty l0 x11_1) (rdOf ByteArray.empty l1 x11_1) t117 _ A8.out).mono ?_);rintro e w' ⟨rfl,⟨nd,rfl⟩⟩;refine ⟨_,rfl,?_⟩))
         go_ret
         exact ⟨by rfl,by repeat (first|exact Drawn0.refl _|apply Drawn0.step)⟩
       ·
        rw [if_neg c7] at H
        exact absurd H (by simp)
     ·
      rw [if_neg c5] at H
      exact absurd H (by simp)
    ·
     rw [if_neg c4] at H
     exact absurd H (by simp)
   ·
    rw [if_neg c3] at H
    by_cases c10:(l0.length:Int)<(l1.length:Int)
    ·
     rw [if_pos c10] at H
     obtain rfl:=Option.some.inj H
     go_wp2
     go_ret
     exact ⟨by rfl,by repeat (first|exact Drawn0.refl _|apply Drawn0.step)⟩
    ·
     rw [if_neg c10] at H
     obtain rfl:=Option.some.inj H
     go_wp2
     go_ret
     exact ⟨by rfl,by repeat (first|exact Drawn0.refl _|apply Drawn0.step)⟩
def slices_Compare_int_int.l0:Nat→List Int→List Int→List Int→Int→Int→Option (Int)
  | 0,_,_,_,_,_=>none
  | k+1,x0,x1,x9,x10,x11=>if x11<x10 then (if 0≤x11 then (if x11<(x9.length:Int) then (if x11≥(x1.length:Int) then (some 1) else (if x11<(x1.length:Int) then ((cmp_Compare_int.f (rd x9 x11) (rd x1 x11)).bind fun t120=>(if t120=0 then (slices_Compare_int_int.l0 k x0 x1 x9 x10 (wrap64 (x11+1))) else (some t120))) else (none))) else (none)) else (none)) else (if (x0.length:Int)<(x1.length:Int) then (some (-1)) else (some 0))
def slices_Compare_int_int.f (k:Nat) (l0:List Int) (l1:List Int):Option (Int):=slices_Compare_int_int.l0 k l0 l1 l0 (l0.length:Int) 0
theorem slices_Compare_int_int.calls (k:Nat) (A0:Option Addr) (c0:Nat) (l0:List Int) (A1:Option Addr) (c1:Nat) (l1:List Int) (r:Int) (w:World) (hr0:Kd.C (Kd.int .i64) w A0 l0.length l0) (hc0:l0.length≤c0) (hr1:Kd.C (Kd.int .i64) w A1 l1.length l1) (hc1:l1.length≤c1) (h:slices_Compare_int_int.f k l0 l1=some r) :
 Calls Try.prog 80 #[.slice A0 l0.length c0,.slice A1 l1.length c1] w fun e w'=>e=.returned (.int .i64 r)∧Drawn0 w w':=by
 have HR0:=Aside0.mk hr0
 have HC0:=Aside0.mk hc0
 clear hr0 hc0
 have HR1:=Aside0.mk hr1
 have HC1:=Aside0.mk hc1
 clear hr1 hc1
 have H:(slices_Compare_int_int.l0 k l0 l1 l0 (l0.length:Int) 0)=some r:=h
 clear h
 have H':=Aside0.mk H
 clear H
 go_enter Try.func80,Try.ntmps80
 go_wp2
 go_loopg [11] k (fun kq v11 w'=>∃ (x11_1:Int),v11=.int .i64 x11_1∧Aside0 (slices_Compare_int_int.l0 kq l0 l1 l0 (l0.length:Int) x11_1=some r)∧Aside0 (kq≤k)∧Drawn0 w w')
 case atStart=>exact ⟨(0),(by rfl),H',⟨Nat.le_refl _⟩,by repeat (exact Drawn0.refl _)⟩
 case round =>
  clear H'
  (try clear c1);(try clear p2)
  obtain ⟨x11_1,rfl,HA,HK1,⟨m1,rfl⟩⟩:=hrel
  cases gk with
  | zero=>exact absurd HA.out (by simp [slices_Compare_int_int.l0])
  | succ k1 =>
   have H:=HA.out
   clear HA
   simp only [slices_Compare_int_int.l0] at H
   by_cases c3:x11_1<(l0.length:Int)
   ·
    rw [if_pos c3] at H
    have c3b0:decide (x11_1<(l0.length:Int))=true:=decide_eq_true c3
    clear c3
    by_cases c4:0≤x11_1
    ·
     rw [if_pos c4] at H
     have c4b0:decide (0≤x11_1)=true:=decide_eq_true c4
     clear c4
     by_cases c5:x11_1<(l0.length:Int)
     ·
      rw [if_pos c5] at H
      have c5b0:decide (x11_1<(l0.length:Int))=true:=decide_eq_true c5
      clear c5
      by_cases c6:x11_1≥(l1.length:Int)
      ·
       rw [if_pos c6] at H
       have c6b0:decide ((l1.length:Int)≤x11_1)=true:=decide_eq_true c6
       clear c6
       obtain rfl:=Option.some.inj H
       have p118:0≤(x11_1:Int):=of_decide_eq_true (by (with_reducible assumption))
       have q118:x11_1<(l0.length:Int):=of_decide_eq_true (by (with_reducible assumption))
       obtain ⟨ad118,e118,hx118_0⟩:=Kd.at_int HR0.out x11_1 p118 q118
       cases e118
       replace p118:=eq_true p118
       replace q118:=eq_true q118
       go_wp2
       go_ret
       exact ⟨by rfl,by repeat (first|exact Drawn0.refl _|apply Drawn0.step)⟩
      ·
       rw [if_neg c6] at H
       have c6b0:decide ((l1.length:Int)≤x11_1)=false:=decide_eq_false c6
       clear c6
       by_cases c7:x11_1<(l1.length:Int)
       ·
        rw [if_pos c7] at H
        have c7b0:decide (x11_1<(l1.length:Int))=true:=decide_eq_true c7
        clear c7
        replace H:=Option.bind_eq_some_iff.mp H
        obtain ⟨t120,A80,H⟩:=H
        replace H:(if t120=0 then (slices_Compare_int_int.l0 k1 l0 l1 l0 (l0.length:Int) (wrap64 (x11_1+1))) else (some t120))=some r:=H
        have A8:=Aside0.mk A80
        clear A80
        by_cases c9:t120=0
        ·
         rw [if_pos c9] at H
         have c9b0:(t120 == 0)=true:=beq_iff_eq.mpr c9
         have c9b1:(t120 != 0)=false:=bne_eq_false_iff_eq.mpr c9
         clear c9
         have H':=Aside0.mk H
         clear H
         have p118:0≤(x11_1:Int):=of_decide_eq_true (by (with_reducible assumption))
         have q118:x11_1<(l0.length:Int):=of_decide_eq_true (by (with_reducible assumption))
         obtain ⟨ad118,e118,hx118_0⟩:=Kd.at_int HR0.out x11_1 p118 q118
         cases e118
         replace p118:=eq_true p118
         replace q118:=eq_true q118
         have p119:0≤(x11_1:Int):=of_decide_eq_true (by (with_reducible assumption))
         have q119:x11_1<(l1.length:Int):=of_decide_eq_true (by (with_reducible assumption))
         obtain ⟨ad119,e119,hx119_0⟩:=Kd.at_int HR1.out x11_1 p119 q119
         cases e119
         replace p119:=eq_true p119
         replace q119:=eq_true q119
         go_wp2_with (((with_reducible refine aZj (f:=75) rfl ?_);refine aZN (some 26) rfl rfl Try.func75 (by kernel_rfl) rfl #[.int .i64 (rd l0 x11_1),.int .i64 (rd l1 x11_1)] rfl (by (try simp only [List.map_toArray,List.map_cons,List.map_nil]);rfl) ?_;(with_reducible refine (cmp_Compare_int.calls (rd l0 x11_1) (rd l1 x11_1) t120 _ A8.out).mono ?_);rintro e w' ⟨rfl,⟨nd,rfl⟩⟩;refine ⟨_,rfl,?_⟩))
         go_roundg k1
         case measure=>have:=HK1.out;omega
         case rel=>exact ⟨(wrap64 (x11_1+1)),(by rfl),H',⟨by have:=HK1.out;omega⟩,by repeat (first|exact Drawn0.refl _|apply Drawn0.step)⟩
        ·
         rw [if_neg c9] at H
         have c9b0:(t120 == 0)=false:=beq_eq_false_iff_ne.mpr c9
         have c9b1:(t120 != 0)=true:=bne_iff_ne.mpr c9
         obtain rfl:=Option.some.inj H
         have p118:0≤(x11_1:Int):=of_decide_eq_true (by (with_reducible assumption))
         have q118:x11_1<(l0.length:Int):=of_decide_eq_true (by (with_reducible assumption))
         obtain ⟨ad118,e118,hx118_0⟩:=Kd.at_int HR0.out x11_1 p118 q118
         cases e118
         replace p118:=eq_true p118
         replace q118:=eq_true q118
         have p119:0≤(x11_1:Int):=of_decide_eq_true (by (with_reducible assumption))
         have q119:x11_1<(l1.length:Int):=of_decide_eq_true (by (with_reducible assumption))
         obtain ⟨ad119,e119,hx119_0⟩:=Kd.at_int HR1.out x11_1 p119 q119
         cases e119
         go_wp2_with (((with_reducible refine aZj (f:=75) rfl ?_);refine aZN (some 26) rfl rfl Try.func75 (by kernel_rfl) rfl #[.int .i64 (rd l0 x11_1),.int .i64 (rd l1 x11_1)] rfl (by (try simp only [List.map_toArray,List.map_cons,List.map_nil]);rfl) ?_;(with_reducible refine (cmp_Compare_int.calls (rd l0 x11_1) (rd l1 x11_1) t120 _ A8.out).mono ?_);rintro e w' ⟨rfl,⟨nd,rfl⟩⟩;refine ⟨_,rfl,?_⟩))
         go_ret
         exact ⟨by rfl,by repeat (first|exact Drawn0.refl _|apply Drawn0.step)⟩
       ·
        rw [if_neg c7] at H
        exact absurd H (by simp)
     ·
      rw [if_neg c5] at H
      exact absurd H (by simp)
    ·
     rw [if_neg c4] at H
     exact absurd H (by simp)
   ·
    rw [if_neg c3] at H
    by_cases c10:(l0.length:Int)<(l1.length:Int)
    ·
     rw [if_pos c10] at H
     obtain rfl:=Option.some.inj H
     go_wp2
     go_ret
     exact ⟨by rfl,by repeat (first|exact Drawn0.refl _|apply Drawn0.step)⟩
    ·
     rw [if_neg c10] at H
     obtain rfl:=Option.some.inj H
     go_wp2
     go_ret
     exact ⟨by rfl,by repeat (first|exact Drawn0.refl _|apply Drawn0.step)⟩
end Go.Proofs.Ytbnplhmmbnmagaa.All
namespace Go.Proofs.Ytbnplhmmbnmagaa.All
open Go.RowKit Go.Proofs.YtbnplhmmbnmagaaW.PrintWords Go.Proofs.YtbnplhmmbnmagaaW.PrintLast Go.Proofs.YtbnplhmmbnmagaaW.PrintMore
attribute [local go_sem] bZN bZL cZj cZh bZn bZm bZM bZK
attribute [local go_sem] Go.Proofs.YtbnplhmmbnmagaaX.binOp_leq Go.Proofs.YtbnplhmmbnmagaaX.binOp_geq Go.Proofs.YtbnplhmmbnmagaaX.binOp_gtr
def berthlaw21_sameCells.l0:Nat→List Int→List Int→Int→Option (Bool)
  | 0,_,_,_=>none
  | k+1,x0,x1,x5=>if x5<(x0.length:Int) then (if 0≤x5 then (if x5<(x1.length:Int) then (if (rd x0 x5)=(rd x1 x5) then (berthlaw21_sameCells.l0 k x0 x1 (wrap64 (x5+1))) else (some false)) else (none)) else (none)) else (some true)
def berthlaw21_sameCells.f (k:Nat) (l0:List Int) (l1:List Int):Option (Bool):=if (l0.length:Int)=(l1.length:Int) then (berthlaw21_sameCells.l0 k l0 l1 0) else (some false)
theorem berthlaw21_sameCells.calls (k:Nat) (A0:Option Addr) (c0:Nat) (l0:List Int) (A1:Option Addr) (c1:Nat) (l1:List Int) (r:Bool) (w:World) (hr0:Kd.C (Kd.int .i64) w A0 l0.length l0) (hc0:l0.length≤c0) (hr1:Kd.C (Kd.int .i64) w A1 l1.length l1) (hc1:l1.length≤c1) (h:berthlaw21_sameCells.f k l0 l1=some r) :
 Calls Try.prog 17 #[.slice A0 l0.length c0,.slice A1 l1.length c1] w fun e w'=>e=.returned (.bool r)∧Drawn0 w w':=by
 have HR0:=Aside0.mk hr0
 have HC0:=Aside0.mk hc0
 clear hr0 hc0
 have HR1:=Aside0.mk hr1
 have HC1:=Aside0.mk hc1
 clear hr1 hc1
 have H:(if (l0.length:Int)=(l1.length:Int) then (berthlaw21_sameCells.l0 k l0 l1 0) else (some false))=some r:=h
 clear h
 by_cases c3:(l0.length:Int)=(l1.length:Int)
 ·
  rw [if_pos c3] at H
  have c3b0:((l0.length:Int) == (l1.length:Int))=true:=beq_iff_eq.mpr c3
  have c3b1:((l0.length:Int) != (l1.length:Int))=false:=bne_eq_false_iff_eq.mpr c3
  have c3b2:(l0.length == l1.length)=true:=by (simp at c3 ⊢;omega)
  clear c3
  have H':=Aside0.mk H
  clear H
  go_enter Try.func17,Try.ntmps17
  go_wp2
  repeat (go_quiet (fail);try go_wp2)
  go_loopg [5] k (fun kq v5 w'=>∃ (x5_1:Int),v5=.int .i64 x5_1∧Aside0 (berthlaw21_sameCells.l0 kq l0 l1 x5_1=some r)∧Aside0 (kq≤k)∧Drawn0 w w')
  case atStart=>exact ⟨(0),(by rfl),H',⟨Nat.le_refl _⟩,by repeat (exact Drawn0.refl _)⟩
  case round =>
   clear H'
   (try clear c1);(try clear p2);(try clear c3);(try clear c3b0);(try clear c3b1);(try clear c3b2)
   obtain ⟨x5_1,rfl,HA,HK1,⟨m1,rfl⟩⟩:=hrel
   cases gk with
   | zero=>exact absurd HA.out (by simp [berthlaw21_sameCells.l0])
   | succ k1 =>
    have H:=HA.out
    clear HA
    simp only [berthlaw21_sameCells.l0] at H
    by_cases c4:x5_1<(l0.length:Int)
    ·
     rw [if_pos c4] at H
     have c4b0:decide (x5_1<(l0.length:Int))=true:=decide_eq_true c4
     clear c4
     by_cases c5:0≤x5_1
     ·
      rw [if_pos c5] at H
      have c5b0:decide (0≤x5_1)=true:=decide_eq_true c5
      clear c5
      by_cases c6:x5_1<(l1.length:Int)
      ·
       rw [if_pos c6] at H
       have c6b0:decide (x5_1<(l1.length:Int))=true:=decide_eq_true c6
       clear c6
       by_cases c7:(rd l0 x5_1)=(rd l1 x5_1)
       ·
        rw [if_pos c7] at H
        have c7b0:((rd l0 x5_1) == (rd l1 x5_1))=true:=beq_iff_eq.mpr c7
        have c7b1:((rd l0 x5_1) != (rd l1 x5_1))=false:=bne_eq_false_iff_eq.mpr c7
        clear c7
        have H':=Aside0.mk H
        clear H
        have p282:0≤(x5_1:Int):=of_decide_eq_true (by (with_reducible assumption))
        have q282:x5_1<(l0.length:Int):=of_decide_eq_true (by (with_reducible assumption))
        obtain ⟨ad282,e282,hx282_0⟩:=Kd.at_int HR0.out x5_1 p282 q282
        cases e282
        replace p282:=eq_true p282
        replace q282:=eq_true q282
        have p283:0≤(x5_1:Int):=of_decide_eq_true (by (with_reducible assumption))
        have q283:x5_1<(l1.length:Int):=of_decide_eq_true (by (with_reducible assumption))
        obtain ⟨ad283,e283,hx283_0⟩:=Kd.at_int HR1.out x5_1 p283 q283
        cases e283
        replace p283:=eq_true p283
        replace q283:=eq_true q283
        go_wp2
        repeat (go_quiet (fail);try go_wp2)
        go_roundg k1
        case measure=>have:=HK1.out;omega
        case rel=>exact ⟨(wrap64 (x5_1+1)),(by rfl),H',⟨by have:=HK1.out;omega⟩,by repeat (first|exact Drawn0.refl _|apply Drawn0.step)⟩
       ·
        rw [if_neg c7] at H
        have c7b0:((rd l0 x5_1) == (rd l1 x5_1))=false:=beq_eq_false_iff_ne.mpr c7
        have c7b1:((rd l0 x5_1) != (rd l1 x5_1))=true:=bne_iff_ne.mpr c7
        obtain rfl:=Option.some.inj H
        have p282:0≤(x5_1:Int):=of_decide_eq_true (by (with_reducible assumption))
        have q282:x5_1<(l0.length:Int):=of_decide_eq_true (by (with_reducible assumption))
        obtain ⟨ad282,e282,hx282_0⟩:=Kd.at_int HR0.out x5_1 p282 q282
        cases e282
        replace p282:=eq_true p282
        replace q282:=eq_true q282
        have p283:0≤(x5_1:Int):=of_decide_eq_true (by (with_reducible assumption))
        have q283:x5_1<(l1.length:Int):=of_decide_eq_true (by (with_reducible assumption))
        obtain ⟨ad283,e283,hx283_0⟩:=Kd.at_int HR1.out x5_1 p283 q283
        cases e283
        replace p283:=eq_true p283
        replace q283:=eq_true q283
        go_wp2
        repeat (go_quiet (fail);try go_wp2)
        go_ret
        exact ⟨by rfl,by repeat (first|exact Drawn0.refl _|apply Drawn0.step)⟩
      ·
       rw [if_neg c6] at H
       exact absurd H (by simp)
     ·
      rw [if_neg c5] at H
      exact absurd H (by simp)
    ·
     rw [if_neg c4] at H
     obtain rfl:=Option.some.inj H
     go_wp2
     go_ret
     exact ⟨by rfl,by repeat (first|exact Drawn0.refl _|apply Drawn0.step)⟩
 ·
  rw [if_neg c3] at H
  obtain rfl:=Option.some.inj H
  go_enter Try.func17,Try.ntmps17
  go_wp2
  go_ret
  exact ⟨by rfl,by repeat (exact Drawn0.refl _)⟩
def IsS136 (w0 W:World) (g:Nat) (f0:List Int) (f1:Int) (f2:Int) (f3:Int):Prop:=∃ A0 c0,W.heap[g]?=some (.cells #[.slice A0 f0.length c0,.int .i64 f1,.int .i64 f2,.int .i64 f3] 136 (0,0))∧w0.heap.size≤g∧(Kd.C (Kd.int .u8) w0 A0 f0.length f0∧f0.length≤c0)
theorem IsS136.old {w0 W:World} {g:Nat} {f0:List Int} {f1 f2 f3:Int} (h:IsS136 w0 W g f0 f1 f2 f3):∃ A0 c0,W.heap[g]?=some (.cells #[.slice A0 f0.length c0,.int .i64 f1,.int .i64 f2,.int .i64 f3] 136 (0,0))∧w0.heap.size≤g∧Kd.C (Kd.int .u8) w0 A0 f0.length f0:=by
  obtain ⟨A0,c0,hb,hg,hr0⟩:=h
  exact ⟨A0,c0,hb,hg,hr0.1⟩
theorem IsS136.grown {w0 W:World} {g:Nat} {f0:List Int} {f1:Int} {f2:Int} {f3:Int} {W1:World} {row:Option Nat} (h:IsS136 w0 W g f0 f1 f2 f3) (hw:W.grownBy W1 row) (hne:some g≠row):IsS136 w0 W1 g f0 f1 f2 f3:=by
  obtain ⟨A0,c0,hb,hg,hr0⟩:=h
  exact ⟨A0,c0,blk_grown hb hw hne,hg,hr0⟩
theorem IsS136.below {w0 W:World} {g:Nat} {f0:List Int} {f1:Int} {f2:Int} {f3:Int} {W1:World} (h:IsS136 w0 W g f0 f1 f2 f3) (hw:Below W.heap.size W W1):IsS136 w0 W1 g f0 f1 f2 f3:=h.grown (aZ0 hw none) (by simp)
theorem IsS136.alloc {w0 W:World} {g:Nat} {f0:List Int} {f1:Int} {f2:Int} {f3:Int} (h:IsS136 w0 W g f0 f1 f2 f3) (o:Obj):IsS136 w0 (W.alloc o) g f0 f1 f2 f3:=h.below (aZa (Below.refl _ _) o)
theorem IsS136.drewN {w0 W:World} {g:Nat} {f0:List Int} {f1:Int} {f2:Int} {f3:Int} (h:IsS136 w0 W g f0 f1 f2 f3) (m:Nat):IsS136 w0 (W.drewN m) g f0 f1 f2 f3:=h
theorem IsS136.drew {w0 W:World} {g:Nat} {f0:List Int} {f1:Int} {f2:Int} {f3:Int} (h:IsS136 w0 W g f0 f1 f2 f3):IsS136 w0 W.drew g f0 f1 f2 f3:=h
theorem IsS136.apart {w0 W:World} {g:Nat} {f0:List Int} {f1:Int} {f2:Int} {f3:Int} {α:Type} {d:Kd α} {e:Nat} {base:Nat} {ok:Nat→Prop} {v:Value} {xs:List α} (h:IsS136 w0 W g f0 f1 f2 f3) (ho:d.R e W base ok v xs) (ht:∀ q,q∈e :: d.E→q≠136):d.R e W base (fun k=>ok k∧k≠g) v xs:=by
  obtain ⟨A0,c0,hb,hg,hr0⟩:=h
  exact Kd.R_types ho hb ht
theorem IsS136.own_ne {w0 W:World} {g:Nat} {f0:List Int} {f1:Int} {f2:Int} {f3:Int} {α:Type} {d:Kd α} {e:Nat} {base:Nat} {ok:Nat→Prop} {v:Value} {xs:List α} (h:IsS136 w0 W g f0 f1 f2 f3) (ho:d.R e W base ok v xs) (ht:e≠136):some g≠v.ownBlock:=by
  obtain ⟨A0,c0,hb,hg,hr0⟩:=h
  exact Kd.R_ne ho hb ht
theorem IsS136.lt {w0 W:World} {g:Nat} {f0:List Int} {f1:Int} {f2:Int} {f3:Int} (h:IsS136 w0 W g f0 f1 f2 f3):g<W.heap.size:=by
  obtain ⟨A0,c0,hb,hg,hr0⟩:=h
  exact aZd hb
theorem IsS136.ge {w0 W:World} {g:Nat} {f0:List Int} {f1:Int} {f2:Int} {f3:Int} (h:IsS136 w0 W g f0 f1 f2 f3):w0.heap.size≤g:=by
  obtain ⟨A0,c0,hb,hg,hr0⟩:=h
  exact hg
theorem IsS136.far {w0 W:World} {g:Nat} {f0:List Int} {f1:Int} {f2:Int} {f3:Int} {p:Addr} (h:IsS136 w0 W g f0 f1 f2 f3) (hne:g≠p.block) (u:Value):IsS136 w0 (W.setCell p u) g f0 f1 f2 f3:=by
  obtain ⟨A0,c0,hb,hg,hr0⟩:=h
  exact ⟨A0,c0,blk_far hb hne u,hg,hr0⟩
theorem aZy {W:World} {g:Nat} {A0:Option Addr} {c0:Nat} {f0:List Int} {f1:Int} {f2:Int} {f3:Int} (h:W.heap[g]?=some (.cells #[.slice A0 f0.length c0,.int .i64 f1,.int .i64 f2,.int .i64 f3] 136 (0,0))):W.cell? ⟨g,0,none⟩=some (.slice A0 f0.length c0):=(eZs h 0).trans rfl
theorem aZx {W:World} {g:Nat} {A0:Option Addr} {c0:Nat} {f0:List Int} {f1:Int} {f2:Int} {f3:Int} (h:W.heap[g]?=some (.cells #[.slice A0 f0.length c0,.int .i64 f1,.int .i64 f2,.int .i64 f3] 136 (0,0))):W.cell? ⟨g,1,none⟩=some (.int .i64 f1):=(eZs h 1).trans rfl
theorem IsS136.set_1 {w0 W:World} {g:Nat} {f0:List Int} {f1:Int} {f2:Int} {f3:Int} (h:IsS136 w0 W g f0 f1 f2 f3) (x:Int):IsS136 w0 (W.setCell ⟨g,1,none⟩ (.int .i64 x)) g f0 x f2 f3:=by
  obtain ⟨A0,c0,hb,hg,hr0⟩:=h
  exact ⟨A0,c0,by simpa using eZV hb 1 (.int .i64 x),hg,hr0⟩
theorem aZw {W:World} {g:Nat} {A0:Option Addr} {c0:Nat} {f0:List Int} {f1:Int} {f2:Int} {f3:Int} (h:W.heap[g]?=some (.cells #[.slice A0 f0.length c0,.int .i64 f1,.int .i64 f2,.int .i64 f3] 136 (0,0))):W.cell? ⟨g,2,none⟩=some (.int .i64 f2):=(eZs h 2).trans rfl
theorem IsS136.set_2 {w0 W:World} {g:Nat} {f0:List Int} {f1:Int} {f2:Int} {f3:Int} (h:IsS136 w0 W g f0 f1 f2 f3) (x:Int):IsS136 w0 (W.setCell ⟨g,2,none⟩ (.int .i64 x)) g f0 f1 x f3:=by
  obtain ⟨A0,c0,hb,hg,hr0⟩:=h
  exact ⟨A0,c0,by simpa using eZV hb 2 (.int .i64 x),hg,hr0⟩
theorem aZv {W:World} {g:Nat} {A0:Option Addr} {c0:Nat} {f0:List Int} {f1:Int} {f2:Int} {f3:Int} (h:W.heap[g]?=some (.cells #[.slice A0 f0.length c0,.int .i64 f1,.int .i64 f2,.int .i64 f3] 136 (0,0))):W.cell? ⟨g,3,none⟩=some (.int .i64 f3):=(eZs h 3).trans rfl
theorem IsS136.set_3 {w0 W:World} {g:Nat} {f0:List Int} {f1:Int} {f2:Int} {f3:Int} (h:IsS136 w0 W g f0 f1 f2 f3) (x:Int):IsS136 w0 (W.setCell ⟨g,3,none⟩ (.int .i64 x)) g f0 f1 f2 x:=by
  obtain ⟨A0,c0,hb,hg,hr0⟩:=h
  exact ⟨A0,c0,by simpa using eZV hb 3 (.int .i64 x),hg,hr0⟩
def berthref20_Reader_fail.f (s0_0:List Int) (s0_1:Int) (s0_2:Int) (s0_3:Int) (a1:Int) (a2:Int):Option (Int × Int × Int):=if s0_2=0 then (some (s0_1,a1,a2)) else (some (s0_1,s0_2,s0_3))
theorem berthref20_Reader_fail.calls (g:Nat) (s0_0:List Int) (s0_1:Int) (s0_2:Int) (s0_3:Int) (a1:Int) (a2:Int) (r1:Int) (r2:Int) (r3:Int) (w0 w:World) (hI:IsS136 w0 w g s0_0 s0_1 s0_2 s0_3) (hB:Below w0.heap.size w0 w) (h:berthref20_Reader_fail.f s0_0 s0_1 s0_2 s0_3 a1 a2=some (r1,r2,r3)) :
 Calls Try.prog 66 #[.pointer (some ⟨g,0,none⟩),.int .i64 a1,.int .i64 a2] w fun e w'=>e=.returned (.tuple #[])∧IsS136 w0 w' g s0_0 r1 r2 r3∧Below w0.heap.size w0 w'∧KeepBut w w' g none:=by
 have HI0:=Aside0.mk hI
 have HK:=Aside0.mk (KeepBut.refl w g none)
 have HL:=Aside0.mk hB.size
 clear hI
 have HW0:=Aside0.mk hB.size
 have HB:=Aside0.mk hB
 clear hB
 have H:(if s0_2=0 then (some (s0_1,a1,a2)) else (some (s0_1,s0_2,s0_3)))=some (r1,r2,r3):=h
 clear h
 by_cases c4:s0_2=0
 ·
  rw [if_pos c4] at H
  have c4b0:(s0_2 == 0)=true:=beq_iff_eq.mpr c4
  have c4b1:(s0_2 != 0)=false:=bne_eq_false_iff_eq.mpr c4
  clear c4
  simp only [Option.some.injEq,Prod.mk.injEq] at H
  obtain ⟨rfl,rfl,rfl⟩:=H
  obtain ⟨ASz5_0,cSz5_0,HGz5,hgz5,HSz5_0⟩:=HI0.out.old
  have hcz5_0:=aZy HGz5
  have hcz5_1:=aZx HGz5
  have hcz5_2:=aZw HGz5
  have hcz5_3:=aZv HGz5
  have hfz5_1:=aZf HGz5 1
  have hfz5_2:=aZf HGz5 2
  have hfz5_3:=aZf HGz5 3
  clear HGz5 hgz5
  go_enter Try.func66,Try.ntmps66
  go_wp2
  go_end0
  exact ⟨by rfl,by repeat ((with_reducible first|exact HI0.out|apply IsS136.set_2|apply IsS136.set_3)),by repeat ((with_reducible first|exact HB.out|refine cZL ?_ (IsS136.ge HI0.out))),by repeat ((with_reducible first|exact HK.out|apply KeepBut.set_))⟩
 ·
  rw [if_neg c4] at H
  have c4b0:(s0_2 == 0)=false:=beq_eq_false_iff_ne.mpr c4
  have c4b1:(s0_2 != 0)=true:=bne_iff_ne.mpr c4
  simp only [Option.some.injEq,Prod.mk.injEq] at H
  obtain ⟨rfl,rfl,rfl⟩:=H
  obtain ⟨ASz6_0,cSz6_0,HGz6,hgz6,HSz6_0⟩:=HI0.out.old
  have hcz6_0:=aZy HGz6
  have hcz6_1:=aZx HGz6
  have hcz6_2:=aZw HGz6
  have hcz6_3:=aZv HGz6
  have hfz6_1:=aZf HGz6 1
  have hfz6_2:=aZf HGz6 2
  have hfz6_3:=aZf HGz6 3
  clear HGz6 hgz6
  go_enter Try.func66,Try.ntmps66
  go_wp2
  go_end0
  exact ⟨by rfl,HI0.out,HB.out,HK.out⟩
def berthref20_Reader_head.l0:Nat→List Int→Int→List Int→Int→Int→Int→Option (Int × Int × Int)
  | 0,_,_,_,_,_,_=>none
  | k+1,x2,x3,x1000,x1001,x1002,x1003=>if x3<4 then (if x3≥(x1000.length:Int) then ((berthref20_Reader_fail.f x1000 x1001 x1002 x1003 201 x3).bind fun bt288=>(some (bt288.1,bt288.2.1,bt288.2.2))) else (if 0≤x3 then (if x3<(x1000.length:Int) then (if x3<(x2.length:Int) then (if (rd x1000 x3)=(rd x2 x3) then (berthref20_Reader_head.l0 k x2 (wrap64 (x3+1)) x1000 x1001 x1002 x1003) else ((berthref20_Reader_fail.f x1000 x1001 x1002 x1003 200 x3).bind fun bt293=>(some (bt293.1,bt293.2.1,bt293.2.2)))) else (none)) else (none)) else (none))) else (some (4,x1002,x1003))
def berthref20_Reader_head.f (k:Nat) (s0_0:List Int) (s0_1:Int) (s0_2:Int) (s0_3:Int):Option (Int × Int × Int):=berthref20_Reader_head.l0 k (([66,82,84,1]:List Int)) 0 s0_0 s0_1 s0_2 s0_3
theorem berthref20_Reader_head.calls (k:Nat) (g:Nat) (s0_0:List Int) (s0_1:Int) (s0_2:Int) (s0_3:Int) (r1:Int) (r2:Int) (r3:Int) (w0 w:World) (hI:IsS136 w0 w g s0_0 s0_1 s0_2 s0_3) (hB:Below w0.heap.size w0 w) (h:berthref20_Reader_head.f k s0_0 s0_1 s0_2 s0_3=some (r1,r2,r3)) :
 Calls Try.prog 60 #[.pointer (some ⟨g,0,none⟩)] w fun e w'=>e=.returned (.tuple #[])∧IsS136 w0 w' g s0_0 r1 r2 r3∧Below w0.heap.size w0 w'∧KeepBut w w' g none:=by
 have HI0:=Aside0.mk hI
 have HK:=Aside0.mk (KeepBut.refl w g none)
 have HL:=Aside0.mk hB.size
 clear hI
 have HW0:=Aside0.mk hB.size
 have HB:=Aside0.mk hB
 clear hB
 have H:(berthref20_Reader_head.l0 k (([66,82,84,1]:List Int)) 0 s0_0 s0_1 s0_2 s0_3)=some (r1,r2,r3):=h
 clear h
 obtain ⟨y285,hy285⟩:∃ y_:List Int,y_=(([66,82,84,1]:List Int)):=⟨_,rfl⟩
 replace H:(berthref20_Reader_head.l0 k y285 0 s0_0 s0_1 s0_2 s0_3)=some (r1,r2,r3):=by (rw [hy285];with_reducible exact H)
 have Ny285:=Aside0.mk hy285
 clear hy285
 have H':=Aside0.mk H
 clear H
 go_enter Try.func60,Try.ntmps60
 go_wp2_with (((with_reducible refine cZq (N:=4) rfl ?_);refine Kd.R_lit (Kd.int .u8) _ 5 ?hg (N:=4) ?hd (xs:=([66,82,84,1]:List Int)) (inner:=[.int .u8 66,.int .u8 82,.int .u8 84,.int .u8 1]) (ok:=fun _=>True) (okp:=fun _=>True) ?hr ?hp (fun _ hk=>hk) trivial (Below.refl _ _) (Nat.le_refl _) (by simp) ?_;(case hd=>rfl);(case hg=>rfl);(case hr=>(go_simp;done));(case hp=>exact (Reps.one (show Kd.M (Kd.int .u8) _ _ _ 66 [.int .u8 66] from rfl) (Reps.one (show Kd.M (Kd.int .u8) _ _ _ 82 [.int .u8 82] from rfl) (Reps.one (show Kd.M (Kd.int .u8) _ _ _ 84 [.int .u8 84] from rfl) (Reps.one (show Kd.M (Kd.int .u8) _ _ _ 1 [.int .u8 1] from rfl) (Reps.none _ _))))));intro v286 w2 ho3 hb hg_ hnew_;clear hg_ hnew_;(rw [←Ny285.out] at ho3);have HO287:=Aside0.mk (Kd.R_lower ho3 (cZE (w:=w) (g:=g) (row:=none) (HK.out)));replace HI0:=Aside0.mk (IsS136.below (HI0.out) hb);replace HK:=Aside0.mk (KeepBut.trans (HK.out) (KeepBut.of_below hb g none) (.inl rfl));replace HB:=Aside0.mk (fZu (HB.out) hb);clear hb ho3))
 go_loopg [3] k (fun kq v3 w'=>∃ (x3_1:Int) (x1001_1:Int) (x1002_1:Int) (x1003_1:Int),v3=.int .i64 x3_1∧Aside0 (berthref20_Reader_head.l0 kq y285 x3_1 s0_0 x1001_1 x1002_1 x1003_1=some (r1,r2,r3))∧Aside0 (kq≤k)∧Aside0 (Kd.R (Kd.int .u8) 5 w' w.heap.size (fun _=>True) v286 y285)∧Aside0 (IsS136 w0 w' g s0_0 x1001_1 x1002_1 x1003_1)∧Aside0 (KeepBut w w' g none)∧Aside0 (Below w0.heap.size w0 w'))
 case atStart=>exact ⟨(0),(s0_1),(s0_2),(s0_3),(by rfl),H',⟨Nat.le_refl _⟩,HO287,HI0,HK,HB⟩
 case round =>
  clear H'
  try clear p2
  obtain ⟨x3_1,x1001_1,x1002_1,x1003_1,rfl,HA,HK1,HO_2,HI0,HK,HB⟩:=hrel
  cases gk with
  | zero=>exact absurd HA.out (by simp [berthref20_Reader_head.l0])
  | succ k1 =>
   have H:=HA.out
   clear HA
   simp only [berthref20_Reader_head.l0] at H
   by_cases c4:x3_1<4
   ·
    rw [if_pos c4] at H
    have c4b0:decide (x3_1<4)=true:=decide_eq_true c4
    clear c4
    by_cases c5:x3_1≥(s0_0.length:Int)
    ·
     rw [if_pos c5] at H
     have c5b0:decide ((s0_0.length:Int)≤x3_1)=true:=decide_eq_true c5
     clear c5
     replace H:=Option.bind_eq_some_iff.mp H
     obtain ⟨⟨t288,t289,t290⟩,A60,H⟩:=H
     replace H:(some (t288,t289,t290))=some (r1,r2,r3):=H
     have A6:=Aside0.mk A60
     clear A60
     simp only [Option.some.injEq,Prod.mk.injEq] at H
     obtain ⟨rfl,rfl,rfl⟩:=H
     obtain ⟨ASz7_0,cSz7_0,HGz7,hgz7,HSz7_0⟩:=HI0.out.old
     have hcz7_0:=aZy HGz7
     have hcz7_1:=aZx HGz7
     have hcz7_2:=aZw HGz7
     have hcz7_3:=aZv HGz7
     have hfz7_1:=aZf HGz7 1
     have hfz7_2:=aZf HGz7 2
     have hfz7_3:=aZf HGz7 3
     clear HGz7 hgz7
     go_wp2_with ((go_at_call 66;(with_reducible refine (berthref20_Reader_fail.calls g s0_0 x1001_1 x1002_1 x1003_1 201 x3_1 t288 t289 t290 w0 _ ?side1 ?side2 A6.out).mono ?_);(case side1=>repeat ((with_reducible exact HI0.out)));(case side2=>repeat ((with_reducible exact HB.out)));rintro e w8 ⟨rfl,hi,hb,hk⟩;replace HO_2:=Aside0.mk (Kd.R_mono (Kd.R_keep (IsS136.apart (show IsS136 w0 _ g s0_0 x1001_1 x1002_1 x1003_1 from HI0.out) (HO_2.out) (by decide)) hk (fun _ h=>h.2)) (fun _ h=>h.1));replace HK:=Aside0.mk (KeepBut.trans (HK.out) hk (.inl rfl));replace HB:=Aside0.mk (hb);replace HI0:=Aside0.mk (hi);(try clear hb);(try clear hk);(try clear hi)))
     ((try simp only [Exit.inBlock,Exit.then]);refine bodyPost_ret (results_none rfl _ _ _) rfl ?_)
     exact ⟨by rfl,HI0.out,HB.out,HK.out⟩
    ·
     rw [if_neg c5] at H
     have c5b0:decide ((s0_0.length:Int)≤x3_1)=false:=decide_eq_false c5
     clear c5
     by_cases c9:0≤x3_1
     ·
      rw [if_pos c9] at H
      have c9b0:decide (0≤x3_1)=true:=decide_eq_true c9
      clear c9
      by_cases c10:x3_1<(s0_0.length:Int)
      ·
       rw [if_pos c10] at H
       have c10b0:decide (x3_1<(s0_0.length:Int))=true:=decide_eq_true c10
       clear c10
       by_cases c11:x3_1<(y285.length:Int)
       ·
        rw [if_pos c11] at H
        have c11b0:decide (x3_1<(y285.length:Int))=true:=decide_eq_true c11
        clear c11
        by_cases c12:(rd s0_0 x3_1)=(rd y285 x3_1)
        ·
         rw [if_pos c12] at H
         have c12b0:((rd s0_0 x3_1) == (rd y285 x3_1))=true:=beq_iff_eq.mpr c12
         have c12b1:((rd s0_0 x3_1) != (rd y285 x3_1))=false:=bne_eq_false_iff_eq.mpr c12
         clear c12
         have H':=Aside0.mk H
         clear H
         obtain ⟨ASz13_0,cSz13_0,HGz13,hgz13,HSz13_0⟩:=HI0.out.old
         have hcz13_0:=aZy HGz13
         have hcz13_1:=aZx HGz13
         have hcz13_2:=aZw HGz13
         have hcz13_3:=aZv HGz13
         have hfz13_1:=aZf HGz13 1
         have hfz13_2:=aZf HGz13 2
         have hfz13_3:=aZf HGz13 3
         clear HGz13 hgz13
         have p291:0≤(x3_1:Int):=of_decide_eq_true (by (with_reducible assumption))
         have q291:x3_1<(s0_0.length:Int):=of_decide_eq_true (by (with_reducible assumption))
         obtain ⟨ad291,e291,hx291_0⟩:=Kd.at_int HSz13_0 x3_1 p291 q291
         cases e291
         replace hx291_0:=aZe HB.out hx291_0
         replace p291:=eq_true p291
         replace q291:=eq_true q291
         obtain ⟨Ao14,co14,eo14⟩:=Kd.R_slice HO_2.out
         subst eo14
         have p292:0≤(x3_1:Int):=of_decide_eq_true (by (with_reducible assumption))
         have q292:x3_1<(y285.length:Int):=of_decide_eq_true (by (with_reducible assumption))
         obtain ⟨ad292,e292,hx292_0⟩:=Kd.at_int (Kd.R_reads' HO_2.out).2.2 x3_1 p292 q292
         cases e292
         replace p292:=eq_true p292
         replace q292:=eq_true q292
         go_wp2
         repeat (go_quiet (fail);try go_wp2)
         go_roundg k1
         case measure=>have:=HK1.out;omega
         case rel=>exact ⟨(wrap64 (x3_1+1)),(x1001_1),(x1002_1),(x1003_1),(by rfl),H',⟨by have:=HK1.out;omega⟩,⟨by (with_reducible repeat (apply Kd.R_drewN));exact HO_2.out⟩,⟨by repeat ((with_reducible first|exact HI0.out|apply IsS136.drewN))⟩,⟨by repeat ((with_reducible first|exact HK.out|apply bZX))⟩,⟨by repeat ((with_reducible first|exact HB.out|apply aZb))⟩⟩
        ·
         rw [if_neg c12] at H
         have c12b0:((rd s0_0 x3_1) == (rd y285 x3_1))=false:=beq_eq_false_iff_ne.mpr c12
         have c12b1:((rd s0_0 x3_1) != (rd y285 x3_1))=true:=bne_iff_ne.mpr c12
         replace H:=Option.bind_eq_some_iff.mp H
         obtain ⟨⟨t293,t294,t295⟩,A150,H⟩:=H
         replace H:(some (t293,t294,t295))=some (r1,r2,r3):=H
         have A15:=Aside0.mk A150
         clear A150
         simp only [Option.some.injEq,Prod.mk.injEq] at H
         obtain ⟨rfl,rfl,rfl⟩:=H
         obtain ⟨ASz16_0,cSz16_0,HGz16,hgz16,HSz16_0⟩:=HI0.out.old
         have hcz16_0:=aZy HGz16
         have hcz16_1:=aZx HGz16
         have hcz16_2:=aZw HGz16
         have hcz16_3:=aZv HGz16
         have hfz16_1:=aZf HGz16 1
         have hfz16_2:=aZf HGz16 2
         have hfz16_3:=aZf HGz16 3
         clear HGz16 hgz16
         have p291:0≤(x3_1:Int):=of_decide_eq_true (by (with_reducible assumption))
         have q291:x3_1<(s0_0.length:Int):=of_decide_eq_true (by (with_reducible assumption))
         obtain ⟨ad291,e291,hx291_0⟩:=Kd.at_int HSz16_0 x3_1 p291 q291
         cases e291
         replace hx291_0:=aZe HB.out hx291_0
         replace p291:=eq_true p291
         replace q291:=eq_true q291
         obtain ⟨Ao17,co17,eo17⟩:=Kd.R_slice HO_2.out
         subst eo17
         have p292:0≤(x3_1:Int):=of_decide_eq_true (by (with_reducible assumption))
         have q292:x3_1<(y285.length:Int):=of_decide_eq_true (by (with_reducible assumption))
         obtain ⟨ad292,e292,hx292_0⟩:=Kd.at_int (Kd.R_reads' HO_2.out).2.2 x3_1 p292 q292
         cases e292
         replace p292:=eq_true p292
         replace q292:=eq_true q292
         go_wp2_with (fail)
         repeat (go_quiet (first|(go_at_call 66;(with_reducible refine (berthref20_Reader_fail.calls g s0_0 x1001_1 x1002_1 x1003_1 200 x3_1 t293 t294 t295 w0 _ ?side1 ?side2 A15.out).mono ?_);(case side1=>repeat (first|(with_reducible first|exact HI0.out|apply IsS136.alloc|apply IsS136.drewN|apply IsS136.drew|apply IsS136.set_1|apply IsS136.set_2|apply IsS136.set_3)|exact HI0.out));(case side2=>repeat (first|(with_reducible first|exact HB.out|apply aZa|apply aZb|apply below_drew1|refine cZL ?_ (IsS136.ge HI0.out))|exact HB.out));rintro e w18 ⟨rfl,hi,hb,hk⟩;replace HO_2:=Aside0.mk (Kd.R_mono (Kd.R_keep (IsS136.apart (show IsS136 w0 _ g s0_0 x1001_1 x1002_1 x1003_1 from by repeat (first|(with_reducible first|exact HI0.out|apply IsS136.alloc|apply IsS136.drewN|apply IsS136.drew|apply IsS136.set_1|apply IsS136.set_2|apply IsS136.set_3)|exact HI0.out)) (by (with_reducible repeat (first|apply Kd.R_alloc|apply Kd.R_drewN|apply Kd.R_drew));exact HO_2.out) (by decide)) hk (fun _ h=>h.2)) (fun _ h=>h.1));replace HK:=Aside0.mk (KeepBut.trans (by repeat (first|(with_reducible first|exact HK.out|apply KeepBut.set_|apply bZX|apply keep_drew|apply keep_alloc)|exact HK.out)) hk (.inl rfl));replace HB:=Aside0.mk (hb);replace HI0:=Aside0.mk (hi);(try clear hb);(try clear hk);(try clear hi)));try go_wp2_with ((go_at_call 66;(with_reducible refine (berthref20_Reader_fail.calls g s0_0 x1001_1 x1002_1 x1003_1 200 x3_1 t293 t294 t295 w0 _ ?side1 ?side2 A15.out).mono ?_);(case side1=>repeat ((with_reducible first|exact HI0.out|apply IsS136.drewN)));(case side2=>repeat ((with_reducible first|exact HB.out|apply aZb)));rintro e w18 ⟨rfl,hi,hb,hk⟩;replace HO_2:=Aside0.mk (Kd.R_mono (Kd.R_keep (IsS136.apart (show IsS136 w0 _ g s0_0 x1001_1 x1002_1 x1003_1 from by repeat ((with_reducible first|exact HI0.out|apply IsS136.drewN))) (by (with_reducible repeat (apply Kd.R_drewN));exact HO_2.out) (by decide)) hk (fun _ h=>h.2)) (fun _ h=>h.1));replace HK:=Aside0.mk (KeepBut.trans (by repeat ((with_reducible first|exact HK.out|apply bZX))) hk (.inl rfl));replace HB:=Aside0.mk (hb);replace HI0:=Aside0.mk (hi);(try clear hb);(try clear hk);(try clear hi))))
         ((try simp only [Exit.inBlock,Exit.then]);refine bodyPost_ret (results_none rfl _ _ _) rfl ?_)
         exact ⟨by rfl,HI0.out,HB.out,HK.out⟩
       ·
        rw [if_neg c11] at H
        exact absurd H (by simp)
      ·
       rw [if_neg c10] at H
       exact absurd H (by simp)
     ·
      rw [if_neg c9] at H
      exact absurd H (by simp)
   ·
    rw [if_neg c4] at H
    have c4b0:decide (x3_1<4)=false:=decide_eq_false c4
    clear c4
    simp only [Option.some.injEq,Prod.mk.injEq] at H
    obtain ⟨rfl,rfl,rfl⟩:=H
    obtain ⟨ASz19_0,cSz19_0,HGz19,hgz19,HSz19_0⟩:=HI0.out.old
    have hcz19_0:=aZy HGz19
    have hcz19_1:=aZx HGz19
    have hcz19_2:=aZw HGz19
    have hcz19_3:=aZv HGz19
    have hfz19_1:=aZf HGz19 1
    have hfz19_2:=aZf HGz19 2
    have hfz19_3:=aZf HGz19 3
    clear HGz19 hgz19
    go_wp2
    repeat (go_quiet (fail);try go_wp2)
    go_end0
    exact ⟨by rfl,by repeat ((with_reducible first|exact HI0.out|apply IsS136.set_1)),by repeat ((with_reducible first|exact HB.out|refine cZL ?_ (IsS136.ge HI0.out))),by repeat ((with_reducible first|exact HK.out|apply KeepBut.set_))⟩
end Go.Proofs.Ytbnplhmmbnmagaa.All
