/- The reference's Copy. -/
import Derived.Test.YtbnplhmmbnmagaazAMm22
import Derived.Test.YtbnplhmmbnmagaazAMm20
import Derived.Deep.RegionLaw
set_option maxHeartbeats 4000000
set_option maxRecDepth 100000
set_option linter.all false
namespace Go.Proofs.Ytbnplhmmbnmagaa.D
open Go.RowKit Go.Proofs.YtbnplhmmbnmagaaW.PrintWords Go.Proofs.YtbnplhmmbnmagaaW.PrintLast Go.Proofs.YtbnplhmmbnmagaaW.PrintMore Go.Proofs.Ytbnplhmmbnmagaa.All
abbrev tx2:Kd (List ByteArray):=Kd.slice 9 Kd.string
abbrev nm2:Kd (List Int):=Kd.slice 3 (Kd.int .i64)
structure CpS (w W:World) (Y Z:Nat) (A0 A1 A2 A3 A4:Option Addr) (c0 c1 c2 c3 c4:Nat) (g:Pg) (vT vN vS vM vC:Value) (T:List ByteArray) (N:List Int) (S:List (List ByteArray)) (M:List (List Int)) (C:List S66):Prop where
  below:Below w.heap.size w W
  boxX:W.heap[w.heap.size]?=some (.cells #[.slice A0 g.T.length c0,.slice A1 g.N.length c1,.slice A2 g.S.length c2,.slice A3 g.M.length c3,.slice A4 g.C.length c4,.int .i64 g.dep,.int .i64 g.loc] 28 (0,0))
  boxZ:W.heap[Z]?=some (.cells #[vT,vN,vS,vM,vC,.int .i64 g.dep,.int .i64 g.loc] 28 (0,0))
  lo:w.heap.size<Z∧w.heap.size≤Y∧Y≠Z
  boxY:W.heap[Y]?=some (.cells #[.slice none 0 0,.slice none 0 0,.slice none 0 0,.slice none 0 0,.slice none 0 0,.int .i64 0,.int .i64 0] 28 (0,0))
  rT:Kd.string.R 9 W w.heap.size (fun _=>True) vT T
  rN:(Kd.int .i64).R 3 W w.heap.size (fun _=>True) vN N
  rS:tx2.R 22 W w.heap.size (fun _=>True) vS S
  rM:nm2.R 23 W w.heap.size (fun _=>True) vM M
  rC:k66.R 66 W w.heap.size (fun _=>True) vC C
section
variable {w W W2:World} {Y Z:Nat} {A0 A1 A2 A3 A4:Option Addr} {c0 c1 c2 c3 c4:Nat} {g:Pg} {vT vN vS vM vC v:Value} {T:List ByteArray} {N:List Int} {S:List (List ByteArray)} {M:List (List Int)} {C:List S66}
theorem CpS.next (h:CpS w W Y Z A0 A1 A2 A3 A4 c0 c1 c2 c3 c4 g vT vN vS vM vC T N S M C) (hb:Below W.heap.size W W2):CpS w W2 Y Z A0 A1 A2 A3 A4 c0 c1 c2 c3 c4 g vT vN vS vM vC T N S M C :=
  ⟨h.below.trans (hb.mono h.below.size),aZc h.boxX hb,aZc h.boxZ hb,h.lo,aZc h.boxY hb,Kd.R_below h.rT hb,Kd.R_below h.rN hb,Kd.R_below h.rS hb,Kd.R_below h.rM hb,Kd.R_below h.rC hb⟩
theorem fZq {W W2:World} (h:W.grownBy W2 none):Below W.heap.size W W2:=⟨h.os,h.tape,h.output,h.size,fun k hk=>h.block k hk (by simp)⟩
theorem gZD {W:World} {Z i:Nat} {cs cs':Array Value} {v:Value} (h:W.heap[Z]?=some (.cells cs 28 (0,0))) (e:cs.setIfInBounds i v=cs'):(W.setCell ⟨Z,i,none⟩ v).heap[Z]?=some (.cells cs' 28 (0,0)):=by
  rw [setCell_eq_setRow W Z i cs 28 (0,0) v h,setRow_heap _ _ _ _ _ _ h,e]
theorem dZu {W:World} {Z i k:Nat} {v:Value} {o:Obj} (h:W.heap[k]?=some o) (hk:k≠Z):(W.setCell ⟨Z,i,none⟩ v).heap[k]?=some o:=(Below.heap_setCell W ⟨Z,i,none⟩ v k hk).trans h
theorem dZv {W W2:World} {k t:Nat} {ob:Option Nat} {cs:Array Value} (h:W.heap[k]?=some (.cells cs 28 (0,0))) (hg:W.grownBy W2 ob) (hn:∀ b,ob=some b→∃ cells,W.heap[b]?=some (.cells cells t (0,0))) (ht:t≠28):W2.heap[k]?=some (.cells cs 28 (0,0)) :=
  (hg.block k (aZd h) (fun e => by
    obtain ⟨cells,hc⟩:=hn k e.symm
    rw [h] at hc
    injection hc with hc
    injection hc with _ hc
    exact ht hc.symm)).trans h
theorem CpS.setT (h:CpS w W Y Z A0 A1 A2 A3 A4 c0 c1 c2 c3 c4 g (.slice none 0 0) vN vS vM vC T N S M C) {T':List ByteArray} (hg:W.grownBy W2 none) (hb:Below w.heap.size w W2) (hr:Kd.string.R 9 W2 w.heap.size (fun _=>True) v T'):CpS w (W2.setCell ⟨Z,0,none⟩ v) Y Z A0 A1 A2 A3 A4 c0 c1 c2 c3 c4 g v vN vS vM vC T' N S M C:=by
  have hw:Below W.heap.size W W2:=fZq hg
  have hz:=aZc h.boxZ hw
  exact ⟨hb.setCell (Nat.le_of_lt h.lo.1) _,dZu (aZc h.boxX hw) (Nat.ne_of_lt h.lo.1),gZD hz rfl,h.lo,dZu (aZc h.boxY hw) h.lo.2.2,Kd.R_set hr hz (by decide) _ _,Kd.R_set (Kd.R_below h.rN hw) hz (by decide) _ _,Kd.R_set (Kd.R_below h.rS hw) hz (by decide) _ _,Kd.R_set (Kd.R_below h.rM hw) hz (by decide) _ _,Kd.R_set (Kd.R_below h.rC hw) hz (by decide) _ _⟩
theorem CpS.setN (h:CpS w W Y Z A0 A1 A2 A3 A4 c0 c1 c2 c3 c4 g vT (.slice none 0 0) vS vM vC T N S M C) {T':List Int} (hg:W.grownBy W2 none) (hb:Below w.heap.size w W2) (hr:(Kd.int .i64).R 3 W2 w.heap.size (fun _=>True) v T'):CpS w (W2.setCell ⟨Z,1,none⟩ v) Y Z A0 A1 A2 A3 A4 c0 c1 c2 c3 c4 g vT v vS vM vC T T' S M C:=by
  have hw:Below W.heap.size W W2:=fZq hg
  have hz:=aZc h.boxZ hw
  exact ⟨hb.setCell (Nat.le_of_lt h.lo.1) _,dZu (aZc h.boxX hw) (Nat.ne_of_lt h.lo.1),gZD hz rfl,h.lo,dZu (aZc h.boxY hw) h.lo.2.2,Kd.R_set (Kd.R_below h.rT hw) hz (by decide) _ _,Kd.R_set hr hz (by decide) _ _,Kd.R_set (Kd.R_below h.rS hw) hz (by decide) _ _,Kd.R_set (Kd.R_below h.rM hw) hz (by decide) _ _,Kd.R_set (Kd.R_below h.rC hw) hz (by decide) _ _⟩
theorem CpS.setC (h:CpS w W Y Z A0 A1 A2 A3 A4 c0 c1 c2 c3 c4 g vT vN vS vM (.slice none 0 0) T N S M C) {T':List S66} (hg:W.grownBy W2 none) (hb:Below w.heap.size w W2) (hr:k66.R 66 W2 w.heap.size (fun _=>True) v T'):CpS w (W2.setCell ⟨Z,4,none⟩ v) Y Z A0 A1 A2 A3 A4 c0 c1 c2 c3 c4 g vT vN vS vM v T N S M T':=by
  have hw:Below W.heap.size W W2:=fZq hg
  have hz:=aZc h.boxZ hw
  exact ⟨hb.setCell (Nat.le_of_lt h.lo.1) _,dZu (aZc h.boxX hw) (Nat.ne_of_lt h.lo.1),gZD hz rfl,h.lo,dZu (aZc h.boxY hw) h.lo.2.2,Kd.R_set (Kd.R_below h.rT hw) hz (by decide) _ _,Kd.R_set (Kd.R_below h.rN hw) hz (by decide) _ _,Kd.R_set (Kd.R_below h.rS hw) hz (by decide) _ _,Kd.R_set (Kd.R_below h.rM hw) hz (by decide) _ _,Kd.R_set hr hz (by decide) _ _⟩
theorem CpS.setS (h:CpS w W Y Z A0 A1 A2 A3 A4 c0 c1 c2 c3 c4 g vT vN vS vM vC T N S M C) {S':List (List ByteArray)} (hg:W.grownBy W2 vS.ownBlock) (hb:Below w.heap.size w W2) (hr:tx2.R 22 W2 w.heap.size (fun _=>True) v S'):CpS w (W2.setCell ⟨Z,2,none⟩ v) Y Z A0 A1 A2 A3 A4 c0 c1 c2 c3 c4 g vT vN v vM vC T N S' M C:=by
  have hty:=Kd.R_typed h.rS
  have hz:=dZv h.boxZ hg hty (by decide)
  exact ⟨hb.setCell (Nat.le_of_lt h.lo.1) _,dZu (dZv h.boxX hg hty (by decide)) (Nat.ne_of_lt h.lo.1),gZD hz rfl,h.lo,dZu (dZv h.boxY hg hty (by decide)) h.lo.2.2,Kd.R_set (Kd.R_over' h.rT hty (by decide) hg) hz (by decide) _ _,Kd.R_set (Kd.R_over' h.rN hty (by decide) hg) hz (by decide) _ _,Kd.R_set hr hz (by decide) _ _,Kd.R_set (Kd.R_over' h.rM hty (by decide) hg) hz (by decide) _ _,Kd.R_set (Kd.R_over' h.rC hty (by decide) hg) hz (by decide) _ _⟩
theorem CpS.setM (h:CpS w W Y Z A0 A1 A2 A3 A4 c0 c1 c2 c3 c4 g vT vN vS vM vC T N S M C) {S':List (List Int)} (hg:W.grownBy W2 vM.ownBlock) (hb:Below w.heap.size w W2) (hr:nm2.R 23 W2 w.heap.size (fun _=>True) v S'):CpS w (W2.setCell ⟨Z,3,none⟩ v) Y Z A0 A1 A2 A3 A4 c0 c1 c2 c3 c4 g vT vN vS v vC T N S S' C:=by
  have hty:=Kd.R_typed h.rM
  have hz:=dZv h.boxZ hg hty (by decide)
  exact ⟨hb.setCell (Nat.le_of_lt h.lo.1) _,dZu (dZv h.boxX hg hty (by decide)) (Nat.ne_of_lt h.lo.1),gZD hz rfl,h.lo,dZu (dZv h.boxY hg hty (by decide)) h.lo.2.2,Kd.R_set (Kd.R_over' h.rT hty (by decide) hg) hz (by decide) _ _,Kd.R_set (Kd.R_over' h.rN hty (by decide) hg) hz (by decide) _ _,Kd.R_set (Kd.R_over' h.rS hty (by decide) hg) hz (by decide) _ _,Kd.R_set hr hz (by decide) _ _,Kd.R_set (Kd.R_over' h.rC hty (by decide) hg) hz (by decide) _ _⟩
end
theorem hZI {α:Type} (d:Kd α) (hd:d.sz=1) (t:Nat) (W:World) (base:Nat) (hb:base≤W.heap.size):d.R t (W.alloc (.cells #[] t)) base (fun k=>W.heap.size≤k) (.slice (some ⟨W.heap.size,0,none⟩) 0 0) []:=by
  have h:=World.ownsRow_lit (base:=base) (e:=t) (size:=1) W #[] 0 hb (by simp [maxLen]) (by simp)
  exact ⟨fun k hk=>by simp [Value.ownBlock] at hk;omega,[],by rw [hd];simpa using h,by simp,fun j p hj=>by simp at hj⟩
theorem cp_over {W W1 W2:World} {b:Nat} (h:Below W.heap.size W W1) (hg:W1.grownBy W2 (some b)) (hb:W.heap.size≤b):Below W.heap.size W W2:=eZ5 h (some b) h.size hg (fun k hk=>by injection hk with hk;omega)
theorem fZ4 {α:Type} {l:List (List α)} {j:Nat} (hj:j<l.length):l.take (j+1)=l.take j++[l.getD j []]:=by
  rw [List.take_add_one,List.getD_eq_getElem?_getD,List.getElem?_eq_getElem hj];rfl
theorem info9c:(Try.prog.info? 9).map (fun i=>(i.zero,i.size,i.bytes))=some (some (.string ⟨#[]⟩),1,16):=by kernel_rfl
theorem info3c:(Try.prog.info? 3).map (fun i=>(i.zero,i.size,i.bytes))=some (some (.int .i64 0),1,8):=by kernel_rfl
theorem info66c:(Try.prog.info? 66).map (fun i=>(i.zero,i.size,i.bytes))=some (some (.agg #[.int .i64 0,.int .i64 0,.int .i64 0,.int .i64 0]),4,32):=by kernel_rfl
theorem info22c:(Try.prog.info? 22).map (fun i=>(i.zero,i.size,i.bytes))=some (some (.slice none 0 0),1,24):=by kernel_rfl
theorem info23c:(Try.prog.info? 23).map (fun i=>(i.zero,i.size,i.bytes))=some (some (.slice none 0 0),1,24):=by kernel_rfl
def cpy.T8:Bool × List (List Nat × List Nat):=(true,[([],[]),([0],[0]),([],[]),([],[]),([3],[3]),([],[]),([4,5],[4,5]),([6],[6]),([2,7],[2,7]),([8],[8]),([1,9,8],[1,9]),([0,1,2,3,4,5,6,7,8,9,10],[]),([11,10,10,0,1,2,3,4,5,6,7,8,9,10],[10,11])])
def cpy.B8:List Nat:=[0,1,0,0,8,0,56,120,252,508,1023,2047,4095]
theorem cpy.tab8:rtab .any (cZt Try.f12 8)=cpy.T8:=by kernel_rfl
theorem cpy.bits8:bZy cpy.T8.2 cpy.B8=true:=by kernel_rfl
def cpy.T12:Bool × List (List Nat × List Nat):=(true,[([],[]),([0],[0]),([],[]),([],[]),([3],[3]),([],[]),([4,5],[4,5]),([6],[6]),([2,7],[2,7]),([8],[8]),([1,9,8],[1,9]),([0,1,2,3,4,5,6,7,8,9,10],[]),([11,10,10,0,1,2,3,4,5,6,7,8,9,10],[10,11])])
def cpy.B12:List Nat:=[0,1,0,0,8,0,56,120,252,508,1023,2047,4095]
theorem cpy.tab12:rtab .any (cZt Try.f12 12)=cpy.T12:=by kernel_rfl
theorem cpy.bits12:bZy cpy.T12.2 cpy.B12=true:=by kernel_rfl
theorem copy_is (w:World) (A0 A1 A2 A3 A4:Option Addr) (c0 c1 c2 c3 c4:Nat) (g:Pg) (hg:InPg w A0 A1 A2 A3 A4 c0 c1 c2 c3 c4 g) (f:FitsB g) :
 Calls Try.prog 12 #[aZ6 A0 A1 A2 A3 A4 c0 c1 c2 c3 c4 g] w fun e w'=>∃ v,e=.returned v∧IsPg w.heap.size g v w'∧Below w.heap.size w w':=by
 obtain ⟨f0,f1,f2,f3,f4,f5,f6⟩:=f
 obtain ⟨p0,p1,p2,p3⟩:=bZj w (.cells #[.slice A0 g.T.length c0,.slice A1 g.N.length c1,.slice A2 g.S.length c2,.slice A3 g.M.length c3,.slice A4 g.C.length c4,.int .i64 g.dep,.int .i64 g.loc] 28) (.cells #[.slice none 0 0,.slice none 0 0,.slice none 0 0,.slice none 0 0,.slice none 0 0,.int .i64 0,.int .i64 0] 28) (.cells #[.slice none 0 0,.slice none 0 0,.slice none 0 0,.slice none 0 0,.slice none 0 0,.int .i64 g.dep,.int .i64 g.loc] 28)
 unfold aZ6
 have HG:=hid_ hg
 clear hg
 go_enter Try.func12,Try.ntmps12
 go_upto_region 2 with (fail)
 generalize ((w.alloc (.cells #[.slice A0 g.T.length c0,.slice A1 g.N.length c1,.slice A2 g.S.length c2,.slice A3 g.M.length c3,.slice A4 g.C.length c4,.int .i64 g.dep,.int .i64 g.loc] 28)).alloc (.cells #[.slice none 0 0,.slice none 0 0,.slice none 0 0,.slice none 0 0,.slice none 0 0,.int .i64 0,.int .i64 0] 28)).alloc (.cells #[.slice none 0 0,.slice none 0 0,.slice none 0 0,.slice none 0 0,.slice none 0 0,.int .i64 g.dep,.int .i64 g.loc] 28)=W at p0 p1 p2 p3 ⊢
 have S0:CpS w W (w.heap.size+1) (w.heap.size+1+1) A0 A1 A2 A3 A4 c0 c1 c2 c3 c4 g (.slice none 0 0) (.slice none 0 0) (.slice none 0 0) (.slice none 0 0) (.slice none 0 0) [] [] [] [] []:=⟨p3,p0,p2,⟨by omega,by omega,by omega⟩,p1,Kd.R_nil _ _ _ _ _,Kd.R_nil _ _ _ _ _,Kd.R_nil _ _ _ _ _,Kd.R_nil _ _ _ _ _,Kd.R_nil _ _ _ _ _⟩
 generalize w.heap.size+1=Y at S0 ⊢
 generalize Y+1=Z at S0 ⊢
 clear p0 p1 p2 p3
 obtain ⟨x0,x1,x2,x3,x4,x5,x6⟩:=aZm S0.boxX
 obtain ⟨z0,z1,z2,z3,z4,z5,z6⟩:=aZm S0.boxZ
 have zf:∀ i,W.frozen? ⟨Z,i,none⟩=false:=fun i=>by simp [World.frozen?,S0.boxZ]
 go_upto_region 3 with ((with_reducible refine aZh (b:=.append) (xs:=#[.tmp 12,.tmp 14]) rfl ?_);at_builtin;refine Kd.R_append_rows Kd.string (w0:=w) w.heap.size rfl (.tmp 12) (.tmp 14) 22 9 (.string ⟨#[]⟩) 16 rfl Try.underlying22 info9c rfl (by decide) (by omega) (.slice none 0 0) [] g.T A0 g.T.length c0 (fun _=>True) (fun _=>False) rfl rfl S0.rT (Kd.C_below HG.out.T S0.below) (fun _ _ h=>h) (fun _ hk=>hk.elim) (fun _ _=>trivial) S0.below S0.below.size (by simp only [List.length_nil];omega) ?_;intro v0 w0 hr hb hgr _;rw [List.nil_append] at hr;obtain ⟨E0,d0,rfl⟩:=Kd.R_slice hr;have zz:=aZc S0.boxZ (fZq hgr);obtain ⟨y0,y1,y2,y3,y4,y5,y6⟩:=aZm zz;have yf:∀ i,w0.frozen? ⟨Z,i,none⟩=false:=fun i=>by simp [World.frozen?,zz])
 clear x0 x1 x2 x3 x4 x5 x6 z0 z1 z2 z3 z4 z5 z6 zf
 have S1:=S0.setT hgr hb hr
 clear S0 hr hb hgr zz y0 y1 y2 y3 y4 y5 y6 yf
 generalize w0.setCell ⟨Z,0,none⟩ (.slice E0 g.T.length d0)=W1 at S1 ⊢
 obtain ⟨x0,x1,x2,x3,x4,x5,x6⟩:=aZm S1.boxX
 obtain ⟨z0,z1,z2,z3,z4,z5,z6⟩:=aZm S1.boxZ
 have zf:∀ i,W1.frozen? ⟨Z,i,none⟩=false:=fun i=>by simp [World.frozen?,S1.boxZ]
 go_upto_region 4 with ((with_reducible refine aZh (b:=.append) (xs:=#[.tmp 18,.tmp 20]) rfl ?_);at_builtin;refine Kd.R_append_rows (Kd.int .i64) (w0:=w) w.heap.size rfl (.tmp 18) (.tmp 20) 23 3 (.int .i64 0) 8 rfl Try.underlying23 info3c rfl (by decide) (by omega) (.slice none 0 0) [] g.N A1 g.N.length c1 (fun _=>True) (fun _=>False) rfl rfl S1.rN (Kd.C_below HG.out.N S1.below) (fun _ _ h=>h) (fun _ hk=>hk.elim) (fun _ _=>trivial) S1.below S1.below.size (by simp only [List.length_nil];omega) ?_;intro v1 w1 hr hb hgr _;rw [List.nil_append] at hr;obtain ⟨E1,d1,rfl⟩:=Kd.R_slice hr;have zz:=aZc S1.boxZ (fZq hgr);obtain ⟨y0,y1,y2,y3,y4,y5,y6⟩:=aZm zz;have yf:∀ i,w1.frozen? ⟨Z,i,none⟩=false:=fun i=>by simp [World.frozen?,zz])
 clear x0 x1 x2 x3 x4 x5 x6 z0 z1 z2 z3 z4 z5 z6 zf
 have S2:=S1.setN hgr hb hr
 clear S1 hr hb hgr zz y0 y1 y2 y3 y4 y5 y6 yf
 generalize w1.setCell ⟨Z,1,none⟩ (.slice E1 g.N.length d1)=W2 at S2 ⊢
 obtain ⟨x0,x1,x2,x3,x4,x5,x6⟩:=aZm S2.boxX
 obtain ⟨z0,z1,z2,z3,z4,z5,z6⟩:=aZm S2.boxZ
 have zf:∀ i,W2.frozen? ⟨Z,i,none⟩=false:=fun i=>by simp [World.frozen?,S2.boxZ]
 go_upto_region 5 with ((with_reducible refine aZh (b:=.append) (xs:=#[.tmp 24,.tmp 26]) rfl ?_);at_builtin;refine Kd.R_append_rows k66 (w0:=w) w.heap.size rfl (.tmp 24) (.tmp 26) 26 66 (.agg #[.int .i64 0,.int .i64 0,.int .i64 0,.int .i64 0]) 32 rfl Try.underlying26 info66c rfl (by decide) (by omega) (.slice none 0 0) [] g.C A4 g.C.length c4 (fun _=>True) (fun _=>False) rfl rfl S2.rC (Kd.C_below HG.out.C S2.below) (fun _ _ h=>h) (fun _ hk=>hk.elim) (fun _ _=>trivial) S2.below S2.below.size (by simp only [List.length_nil];omega) ?_;intro v4 w4 hr hb hgr _;rw [List.nil_append] at hr;obtain ⟨E4,d4,rfl⟩:=Kd.R_slice hr;have zz:=aZc S2.boxZ (fZq hgr);obtain ⟨y0,y1,y2,y3,y4,y5,y6⟩:=aZm zz;have yf:∀ i,w4.frozen? ⟨Z,i,none⟩=false:=fun i=>by simp [World.frozen?,zz])
 clear x0 x1 x2 x3 x4 x5 x6 z0 z1 z2 z3 z4 z5 z6 zf
 have S3:=S2.setC hgr hb hr
 clear S2 hr hb hgr zz y0 y1 y2 y3 y4 y5 y6 yf
 generalize w4.setCell ⟨Z,4,none⟩ (.slice E4 g.C.length d4)=W3 at S3 ⊢
 go_wp2_with (fail)
 go_loopw [4] (fun s4 wr=>∃ (j:Nat) (vv:Value),s4=.int .i64 j∧j≤g.S.length∧CpS w wr Y Z A0 A1 A2 A3 A4 c0 c1 c2 c3 c4 g (.slice E0 g.T.length d0) (.slice E1 g.N.length d1) vv (.slice none 0 0) (.slice E4 g.C.length d4) g.T g.N (g.S.take j) [] g.C) (fun s4 _=>g.S.length - (intOf s4).toNat)
 case atStart=>exact ⟨0,_,rfl,Nat.zero_le _,S3⟩
 case round =>
  obtain ⟨j,vv,rfl,hj,st⟩:=hrel
  have etl:(g.S.take j).length=j:=by rw [List.length_take];omega
  obtain ⟨ES,dS,rfl⟩:=Kd.R_slice st.rS
  rw [etl] at st
  by_cases hlt:j<g.S.length
  ·
   obtain ⟨ad,rfl,R1,d1,kw,k1,k2⟩:=dZZ HG.out.S j hlt
   have hle:(g.S.getD j []).length*16≤140737488351232:=by rw [List.getD_eq_getElem?_getD,List.getElem?_eq_getElem hlt];exact f5 _ (List.getElem_mem hlt)
   have htn:=fZ4 hlt
   generalize g.S.getD j []=lj at kw k1 k2 hle htn
   have k0:=aZe st.below kw
   obtain ⟨x0,x1,x2,x3,x4,x5,x6⟩:=aZm st.boxX
   obtain ⟨z0,z1,z2,z3,z4,z5,z6⟩:=aZm st.boxZ
   clear x0 x1 x3 x4 x5 x6 z0 z1 z3 z4 z5 z6
   have i0:(0:Int)≤(j:Int):=by omega
   have i1:(j:Int)<(g.S.length:Int):=by omega
   have hm1:g.S.length - (intOf (.int .i64 ((j:Int)+1))).toNat<g.S.length - (intOf (.int .i64 (j:Int))).toNat:=by simp [intOf];omega
   have ST:=hid_ st
   have HN:=hid_ htn
   clear htn st
   go_upto_region 8 with (fail)
   refine cZ0 (n:=13) (S:=fun w'=>w'.cell? ⟨Z,2,none⟩=some (.slice ES j dS)∧w'.cell? ⟨w.heap.size,2,none⟩=some (.slice (some ad) g.S.length c2)∧w'.cell? (ad.add j)=some (.slice R1 lj.length d1)) (ds:=[12]) (bm 13 0) (by kernel_rfl) rfl (by kernel_rfl) ⟨z2,x2,k0⟩ (fun hHeld=>?_)
   refine bZa cpy.tab8 cpy.bits8 (fun HT_ HW_=>?_)
   refine aZC (i:=0) (N:=some 36) (v:=?_) (a':=?_) (bm 13 1) rfl rfl (aZl HT_.out (by kernel_rfl)) (fun _ _ _ h=>h) (Or.inl ⟨by rfl,?_⟩) ?_ ?_;rotate_left;(intro w';go_simp;with_reducible rfl);rotate_left;(simp only [Act.put,sZa,sZb,sZc];rfl)
   refine aZC (i:=3) (N:=some 39) (v:=?_) (a':=?_) (bm 13 9) rfl rfl (aZl HT_.out (by kernel_rfl)) (fun _ _ _ h=>h) (Or.inl ⟨by rfl,?_⟩) ?_ ?_;rotate_left;(intro w';go_simp;with_reducible rfl);rotate_left;(simp only [Act.put,sZa,sZb,sZc];rfl)
   refine aZC (i:=5) (N:=some 41) (v:=?_) (a':=?_) (bm 13 41) rfl rfl (aZl HT_.out (by kernel_rfl)) (fun _ _ _ h=>h) (Or.inl ⟨by rfl,?_⟩) ?_ ?_;rotate_left;(intro w';go_simp;with_reducible rfl);rotate_left;(simp only [Act.put,sZa,sZb,sZc];rfl)
   refine take_ (i:=1) (N:=some 37) (v:=?_) (a':=?_) (bm 13 43) rfl rfl (aZz HT_.out HW_.out (by kernel_rfl)) (fun _ _ _ h=>h) (Or.inl ⟨by rfl,?_⟩) hHeld ?_ ?_
   rotate_left
   ·
    intro w' hS'
    go_simp
    with_reducible rfl
   rotate_left
   ·
    simp only [Act.put,sZa,sZb,sZc]
    rfl
   refine take_ (i:=4) (N:=some 40) (v:=?_) (a':=?_) (bm 13 59) rfl rfl (aZz HT_.out HW_.out (by kernel_rfl)) (fun _ _ _ h=>h) (Or.inl ⟨by rfl,?_⟩) hHeld ?_ ?_
   rotate_left
   ·
    intro w' hS'
    go_simp
    with_reducible rfl
   rotate_left
   ·
    simp only [Act.put,sZa,sZb,sZc]
    rfl
   refine aZC (i:=6) (N:=some 42) (v:=?_) (a':=?_) (bm 13 123) rfl rfl (aZl HT_.out (by kernel_rfl)) (fun _ _ _ h=>h) (Or.inl ⟨by rfl,?_⟩) ?_ ?_;rotate_left;(intro w';go_simp;with_reducible rfl);rotate_left;(simp only [Act.put,sZa,sZb,sZc];rfl)
   refine take_ (i:=7) (N:=some 43) (v:=?_) (a':=?_) (bm 13 251) rfl rfl (aZz HT_.out HW_.out (by kernel_rfl)) (fun _ _ _ h=>h) (Or.inl ⟨by rfl,?_⟩) hHeld ?_ ?_
   rotate_left
   ·
    intro w' hS'
    go_simp
    with_reducible rfl
   rotate_left
   ·
    simp only [Act.put,sZa,sZb,sZc]
    rfl
   refine one_ (i:=2) (N:=some 38) (bm 13 255) rfl rfl (aZU HT_.out (by kernel_rfl)) (by decide) (fun K hK=>?_)
   generalize hV:wr.drew=V at hHeld ⊢
   have bV:Below wr.heap.size wr V:=hV▸(Below.refl wr.heap.size wr).drew
   clear hV
   refine hZp (w1:=?_) (v:=?_) (by rfl) rfl ?_ ?_
   rotate_left 2
   ·
    go_simp
    constructor
    · rfl
    · rfl
   have ba:=aZa (Below.refl V.heap.size V) (.cells #[] 9)
   refine hK.out _ _ ⟨aZe ba hHeld.1,aZe ba hHeld.2.1,aZe ba hHeld.2.2⟩ (fun hHeld=>?_)
   clear hK K
   refine eZ7 (a':=?_) ?_ ?_
   rotate_left
   ·
    show Act.put _ (some 38) _=_
    simp only [Act.put,sZa,sZb,sZc]
    rfl
   refine one_ (i:=8) (N:=some 44) (bm 13 511) rfl rfl (aZU HT_.out (by kernel_rfl)) (by decide) (fun K hK=>?_)
   refine Kd.R_append_rows_step Kd.string (w0:=w) w.heap.size (by rfl) (.tmp 38) (.tmp 43) 22 9 (.string ⟨#[]⟩) 16 rfl Try.underlying22 info9c rfl (by decide) (by omega) (.slice (some ⟨V.heap.size,0,none⟩) 0 0) [] lj R1 lj.length d1 (fun q=>wr.heap.size≤q) (fun _=>False) rfl rfl (Kd.R_mono (hZI Kd.string rfl 9 V w.heap.size (Nat.le_trans ST.out.below.size bV.size)) (fun q hq=>Nat.le_trans bV.size hq)) (Kd.C_below (Kd.C_below (Kd.C_below k2 ST.out.below) bV) ba) (fun _ _ h=>h) (fun _ hk=>hk.elim) (fun q hq=>Nat.le_trans bV.size (Nat.le_trans ba.size hq)) ((ST.out.below.trans (bV.mono ST.out.below.size)).trans (ba.mono (Nat.le_trans ST.out.below.size bV.size))) (Nat.le_trans ST.out.below.size (Nat.le_trans bV.size ba.size)) (by simp only [List.length_nil];omega) ?_
   intro v8 w8 hr8 hb8 hg8 _
   rw [List.nil_append] at hr8
   obtain ⟨E8,d8,rfl⟩:=Kd.R_slice hr8
   have bel8:=cp_over (bV.trans (ba.mono bV.size)) hg8 bV.size
   have st8:=ST.out.next bel8
   have z8:=aZe bel8 z2
   refine hK.out _ _ ⟨z8,aZe bel8 x2,aZe bel8 k0⟩ (fun hHeld=>?_)
   clear hK K
   refine eZ7 (a':=?_) ?_ ?_
   rotate_left
   ·
    show Act.put _ (some 44) _=_
    simp only [Act.put,sZa,sZb,sZc]
    rfl
   refine one_ (i:=9) (N:=some 45) (bm 13 1023) rfl rfl (aZU HT_.out (by kernel_rfl)) (by decide) (fun K hK=>?_)
   refine hZp (w1:=?_) (v:=?_) (by rfl) rfl ?_ ?_
   rotate_left 2
   ·
    go_simp
    constructor
    · rfl
    · rfl
   have bb:=aZa (Below.refl w8.heap.size w8) (.cells #[.slice E8 lj.length d8] 22)
   refine hK.out _ _ ⟨aZe bb hHeld.1,aZe bb hHeld.2.1,aZe bb hHeld.2.2⟩ (fun hHeld=>?_)
   clear hK K
   refine eZ7 (a':=?_) ?_ ?_
   rotate_left
   ·
    show Act.put _ (some 45) _=_
    simp only [Act.put,sZa,sZb,sZc]
    rfl
   refine one_ (i:=10) (N:=some 46) (bm 13 2047) rfl rfl (aZU HT_.out (by kernel_rfl)) (by decide) (fun K hK=>?_)
   refine Kd.R_append_step tx2 (w0:=w) w.heap.size (by rfl) (.tmp 37) (.tmp 45) 24 22 (.slice none 0 0) 24 rfl Try.underlying24 info22c rfl (by decide) (by omega) (.slice ES j dS) (g.S.take j) lj [.slice E8 lj.length d8] (fun _=>True) (fun q=>wr.heap.size≤q) rfl rfl (Kd.M_row hr8) (fun q hq=>⟨trivial,fun e=>by have:=Kd.R_lt ST.out.rS q e.symm;omega⟩) (fun _ _=>trivial) st8.rS st8.below st8.below.size (by rw [etl];omega) ?_
   intro v9 w9 hr9 hb9 hg9 _
   obtain ⟨E9,d9,rfl⟩:=Kd.R_slice hr9
   have zz:=dZv st8.boxZ hg9 (Kd.R_typed st8.rS) (by decide)
   have zx:=dZv st8.boxX hg9 (Kd.R_typed st8.rS) (by decide)
   obtain ⟨y0,y1,y2,y3,y4,y5,y6⟩:=aZm zz
   obtain ⟨u0,u1,u2,u3,u4,u5,u6⟩:=aZm zx
   refine hK.out _ _ ⟨y2,u2,aZe hb9 kw⟩ (fun hHeld=>?_)
   clear hK K
   refine eZ7 (a':=?_) ?_ ?_
   rotate_left
   ·
    show Act.put _ (some 46) _=_
    simp only [Act.put,sZa,sZb,sZc]
    rfl
   refine aZC (i:=11) (N:=some 47) (v:=?_) (a':=?_) (bm 13 4095) rfl rfl (aZl HT_.out (by kernel_rfl)) (fun _ _ _ h=>h) (Or.inl ⟨by rfl,?_⟩) ?_ ?_;rotate_left;(intro w';go_simp;with_reducible rfl);rotate_left;(simp only [Act.put,sZa,sZb,sZc];rfl)
   refine gZp (i:=12) (N:=none) (bm 13 8191) rfl rfl (aZU HT_.out (by kernel_rfl)) (by decide) (fun K hK=>?_)
   have yf:∀ i,w9.frozen? ⟨Z,i,none⟩=false:=fun i=>by simp [World.frozen?,zz]
   refine skip_ (w1:=?_) (by rfl) rfl ?_ ?_
   rotate_left
   ·
    go_simp
    rfl
   refine hK.out _ _ ?_
   clear hK K
   refine eZl (bZ8 HT_.out (by kernel_rfl)) ?_
   have st9:=st8.setS hg9 hb9 hr9
   have el9:(g.S.take (j+1)).length=j+1:=by rw [List.length_take];omega
   rw [←HN.out,el9] at st9
   go_wp2_with (fail)
   go_roundw
   case rel=>exact ⟨j+1,_,by go_num,hlt,st9⟩
   case measure=>exact hm1
  ·
   have hge:¬(j:Int)<(g.S.length:Int):=by omega
   obtain rfl:j=g.S.length:=by omega
   rw [List.take_length] at st
   obtain ⟨x0,x1,x2,x3,x4,x5,x6⟩:=aZm st.boxX
   clear hlt hj etl
   go_wp2_with (fail)
   go_loopw [5] (fun s4 wr=>∃ (j:Nat) (vv:Value),s4=.int .i64 j∧j≤g.M.length∧CpS w wr Y Z A0 A1 A2 A3 A4 c0 c1 c2 c3 c4 g (.slice E0 g.T.length d0) (.slice E1 g.N.length d1) (.slice ES g.S.length dS) vv (.slice E4 g.C.length d4) g.T g.N g.S (g.M.take j) g.C) (fun s4 _=>g.M.length - (intOf s4).toNat)
   case atStart=>exact ⟨0,_,rfl,Nat.zero_le _,st⟩
   case round =>
    obtain ⟨j,vv,rfl,hj,st⟩:=hrel
    have etl:(g.M.take j).length=j:=by rw [List.length_take];omega
    obtain ⟨EM,dM,rfl⟩:=Kd.R_slice st.rM
    rw [etl] at st
    by_cases hlt:j<g.M.length
    ·
     obtain ⟨ad,rfl,R1,d1,kw,k1,k2⟩:=dZZ HG.out.M j hlt
     have hle:(g.M.getD j []).length*8≤140737488351232:=by rw [List.getD_eq_getElem?_getD,List.getElem?_eq_getElem hlt];exact f6 _ (List.getElem_mem hlt)
     have htn:=fZ4 hlt
     generalize g.M.getD j []=lj at kw k1 k2 hle htn
     have k0:=aZe st.below kw
     obtain ⟨x0,x1,x2,x3,x4,x5,x6⟩:=aZm st.boxX
     obtain ⟨z0,z1,z2,z3,z4,z5,z6⟩:=aZm st.boxZ
     clear x0 x1 x2 x4 x5 x6 z0 z1 z2 z4 z5 z6
     have i0:(0:Int)≤(j:Int):=by omega
     have i1:(j:Int)<(g.M.length:Int):=by omega
     have hm1:g.M.length - (intOf (.int .i64 ((j:Int)+1))).toNat<g.M.length - (intOf (.int .i64 (j:Int))).toNat:=by simp [intOf];omega
     have ST:=hid_ st
     have HN:=hid_ htn
     clear htn st
     go_upto_region 12 with (fail)
     refine cZ0 (n:=13) (S:=fun w'=>w'.cell? ⟨Z,3,none⟩=some (.slice EM j dM)∧w'.cell? ⟨w.heap.size,3,none⟩=some (.slice (some ad) g.M.length c3)∧w'.cell? (ad.add j)=some (.slice R1 lj.length d1)) (ds:=[12]) (bm 13 0) (by kernel_rfl) rfl (by kernel_rfl) ⟨z3,x3,k0⟩ (fun hHeld=>?_)
     refine bZa cpy.tab12 cpy.bits12 (fun HT_ HW_=>?_)
     refine aZC (i:=0) (N:=some 55) (v:=?_) (a':=?_) (bm 13 1) rfl rfl (aZl HT_.out (by kernel_rfl)) (fun _ _ _ h=>h) (Or.inl ⟨by rfl,?_⟩) ?_ ?_;rotate_left;(intro w';go_simp;with_reducible rfl);rotate_left;(simp only [Act.put,sZa,sZb,sZc];rfl)
     refine aZC (i:=3) (N:=some 58) (v:=?_) (a':=?_) (bm 13 9) rfl rfl (aZl HT_.out (by kernel_rfl)) (fun _ _ _ h=>h) (Or.inl ⟨by rfl,?_⟩) ?_ ?_;rotate_left;(intro w';go_simp;with_reducible rfl);rotate_left;(simp only [Act.put,sZa,sZb,sZc];rfl)
     refine aZC (i:=5) (N:=some 60) (v:=?_) (a':=?_) (bm 13 41) rfl rfl (aZl HT_.out (by kernel_rfl)) (fun _ _ _ h=>h) (Or.inl ⟨by rfl,?_⟩) ?_ ?_;rotate_left;(intro w';go_simp;with_reducible rfl);rotate_left;(simp only [Act.put,sZa,sZb,sZc];rfl)
     refine take_ (i:=1) (N:=some 56) (v:=?_) (a':=?_) (bm 13 43) rfl rfl (aZz HT_.out HW_.out (by kernel_rfl)) (fun _ _ _ h=>h) (Or.inl ⟨by rfl,?_⟩) hHeld ?_ ?_
     rotate_left
     ·
      intro w' hS'
      go_simp
      with_reducible rfl
     rotate_left
     ·
      simp only [Act.put,sZa,sZb,sZc]
      rfl
     refine take_ (i:=4) (N:=some 59) (v:=?_) (a':=?_) (bm 13 59) rfl rfl (aZz HT_.out HW_.out (by kernel_rfl)) (fun _ _ _ h=>h) (Or.inl ⟨by rfl,?_⟩) hHeld ?_ ?_
     rotate_left
     ·
      intro w' hS'
      go_simp
      with_reducible rfl
     rotate_left
     ·
      simp only [Act.put,sZa,sZb,sZc]
      rfl
     refine aZC (i:=6) (N:=some 61) (v:=?_) (a':=?_) (bm 13 123) rfl rfl (aZl HT_.out (by kernel_rfl)) (fun _ _ _ h=>h) (Or.inl ⟨by rfl,?_⟩) ?_ ?_;rotate_left;(intro w';go_simp;with_reducible rfl);rotate_left;(simp only [Act.put,sZa,sZb,sZc];rfl)
     refine take_ (i:=7) (N:=some 62) (v:=?_) (a':=?_) (bm 13 251) rfl rfl (aZz HT_.out HW_.out (by kernel_rfl)) (fun _ _ _ h=>h) (Or.inl ⟨by rfl,?_⟩) hHeld ?_ ?_
     rotate_left
     ·
      intro w' hS'
      go_simp
      with_reducible rfl
     rotate_left
     ·
      simp only [Act.put,sZa,sZb,sZc]
      rfl
     refine one_ (i:=2) (N:=some 57) (bm 13 255) rfl rfl (aZU HT_.out (by kernel_rfl)) (by decide) (fun K hK=>?_)
     generalize hV:wr.drew=V at hHeld ⊢
     have bV:Below wr.heap.size wr V:=hV▸(Below.refl wr.heap.size wr).drew
     clear hV
     refine hZp (w1:=?_) (v:=?_) (by rfl) rfl ?_ ?_
     rotate_left 2
     ·
      go_simp
      constructor
      · rfl
      · rfl
     have ba:=aZa (Below.refl V.heap.size V) (.cells #[] 3)
     refine hK.out _ _ ⟨aZe ba hHeld.1,aZe ba hHeld.2.1,aZe ba hHeld.2.2⟩ (fun hHeld=>?_)
     clear hK K
     refine eZ7 (a':=?_) ?_ ?_
     rotate_left
     ·
      show Act.put _ (some 57) _=_
      simp only [Act.put,sZa,sZb,sZc]
      rfl
     refine one_ (i:=8) (N:=some 63) (bm 13 511) rfl rfl (aZU HT_.out (by kernel_rfl)) (by decide) (fun K hK=>?_)
     refine Kd.R_append_rows_step (Kd.int .i64) (w0:=w) w.heap.size (by rfl) (.tmp 57) (.tmp 62) 23 3 (.int .i64 0) 8 rfl Try.underlying23 info3c rfl (by decide) (by omega) (.slice (some ⟨V.heap.size,0,none⟩) 0 0) [] lj R1 lj.length d1 (fun q=>wr.heap.size≤q) (fun _=>False) rfl rfl (Kd.R_mono (hZI (Kd.int .i64) rfl 3 V w.heap.size (Nat.le_trans ST.out.below.size bV.size)) (fun q hq=>Nat.le_trans bV.size hq)) (Kd.C_below (Kd.C_below (Kd.C_below k2 ST.out.below) bV) ba) (fun _ _ h=>h) (fun _ hk=>hk.elim) (fun q hq=>Nat.le_trans bV.size (Nat.le_trans ba.size hq)) ((ST.out.below.trans (bV.mono ST.out.below.size)).trans (ba.mono (Nat.le_trans ST.out.below.size bV.size))) (Nat.le_trans ST.out.below.size (Nat.le_trans bV.size ba.size)) (by simp only [List.length_nil];omega) ?_
     intro v8 w8 hr8 hb8 hg8 _
     rw [List.nil_append] at hr8
     obtain ⟨E8,d8,rfl⟩:=Kd.R_slice hr8
     have bel8:=cp_over (bV.trans (ba.mono bV.size)) hg8 bV.size
     have st8:=ST.out.next bel8
     have z8:=aZe bel8 z3
     refine hK.out _ _ ⟨z8,aZe bel8 x3,aZe bel8 k0⟩ (fun hHeld=>?_)
     clear hK K
     refine eZ7 (a':=?_) ?_ ?_
     rotate_left
     ·
      show Act.put _ (some 63) _=_
      simp only [Act.put,sZa,sZb,sZc]
      rfl
     refine one_ (i:=9) (N:=some 64) (bm 13 1023) rfl rfl (aZU HT_.out (by kernel_rfl)) (by decide) (fun K hK=>?_)
     refine hZp (w1:=?_) (v:=?_) (by rfl) rfl ?_ ?_
     rotate_left 2
     ·
      go_simp
      constructor
      · rfl
      · rfl
     have bb:=aZa (Below.refl w8.heap.size w8) (.cells #[.slice E8 lj.length d8] 23)
     refine hK.out _ _ ⟨aZe bb hHeld.1,aZe bb hHeld.2.1,aZe bb hHeld.2.2⟩ (fun hHeld=>?_)
     clear hK K
     refine eZ7 (a':=?_) ?_ ?_
     rotate_left
     ·
      show Act.put _ (some 64) _=_
      simp only [Act.put,sZa,sZb,sZc]
      rfl
     refine one_ (i:=10) (N:=some 65) (bm 13 2047) rfl rfl (aZU HT_.out (by kernel_rfl)) (by decide) (fun K hK=>?_)
     refine Kd.R_append_step nm2 (w0:=w) w.heap.size (by rfl) (.tmp 56) (.tmp 64) 25 23 (.slice none 0 0) 24 rfl Try.underlying25 info23c rfl (by decide) (by omega) (.slice EM j dM) (g.M.take j) lj [.slice E8 lj.length d8] (fun _=>True) (fun q=>wr.heap.size≤q) rfl rfl (Kd.M_row hr8) (fun q hq=>⟨trivial,fun e=>by have:=Kd.R_lt ST.out.rM q e.symm;omega⟩) (fun _ _=>trivial) st8.rM st8.below st8.below.size (by rw [etl];omega) ?_
     intro v9 w9 hr9 hb9 hg9 _
     obtain ⟨E9,d9,rfl⟩:=Kd.R_slice hr9
     have zz:=dZv st8.boxZ hg9 (Kd.R_typed st8.rM) (by decide)
     have zx:=dZv st8.boxX hg9 (Kd.R_typed st8.rM) (by decide)
     obtain ⟨y0,y1,y2,y3,y4,y5,y6⟩:=aZm zz
     obtain ⟨u0,u1,u2,u3,u4,u5,u6⟩:=aZm zx
     refine hK.out _ _ ⟨y3,u3,aZe hb9 kw⟩ (fun hHeld=>?_)
     clear hK K
     refine eZ7 (a':=?_) ?_ ?_
     rotate_left
     ·
      show Act.put _ (some 65) _=_
      simp only [Act.put,sZa,sZb,sZc]
      rfl
     refine aZC (i:=11) (N:=some 66) (v:=?_) (a':=?_) (bm 13 4095) rfl rfl (aZl HT_.out (by kernel_rfl)) (fun _ _ _ h=>h) (Or.inl ⟨by rfl,?_⟩) ?_ ?_;rotate_left;(intro w';go_simp;with_reducible rfl);rotate_left;(simp only [Act.put,sZa,sZb,sZc];rfl)
     refine gZp (i:=12) (N:=none) (bm 13 8191) rfl rfl (aZU HT_.out (by kernel_rfl)) (by decide) (fun K hK=>?_)
     have yf:∀ i,w9.frozen? ⟨Z,i,none⟩=false:=fun i=>by simp [World.frozen?,zz]
     refine skip_ (w1:=?_) (by rfl) rfl ?_ ?_
     rotate_left
     ·
      go_simp
      rfl
     refine hK.out _ _ ?_
     clear hK K
     refine eZl (bZ8 HT_.out (by kernel_rfl)) ?_
     have st9:=st8.setM hg9 hb9 hr9
     have el9:(g.M.take (j+1)).length=j+1:=by rw [List.length_take];omega
     rw [←HN.out,el9] at st9
     go_wp2_with (fail)
     go_roundw
     case rel=>exact ⟨j+1,_,by go_num,hlt,st9⟩
     case measure=>exact hm1
    ·
     have hge:¬(j:Int)<(g.M.length:Int):=by omega
     obtain rfl:j=g.M.length:=by omega
     rw [List.take_length] at st
     obtain ⟨x0,x1,x2,x3,x4,x5,x6⟩:=aZm st.boxX
     obtain ⟨z0,z1,z2,z3,z4,z5,z6⟩:=aZm st.boxZ
     obtain ⟨u0,u1,u2,u3,u4,u5,u6⟩:=aZm st.boxY
     have uf:∀ i,wr.frozen? ⟨Y,i,none⟩=false:=fun i=>by simp [World.frozen?,st.boxY]
     clear hlt hj etl
     have ST:=hid_ st
     clear st
     go_wp2_with (fail)
     have t1:=cZ5 wr Y (.slice E0 g.T.length d0) (.slice E1 g.N.length d1) (.slice ES g.S.length dS) (.slice EM g.M.length dM) (.slice E4 g.C.length d4) (.int .i64 g.dep) (.int .i64 g.loc) ⟨_,_,_,_,_,_,_,ST.out.boxY⟩
     have t2:∀ {α:Type} {q:Kd α} {e:Nat} {v:Value} {xs:List α},q.R e wr w.heap.size (fun _=>True) v xs→(∀ t∈e :: q.E,t≠28)→q.R e (setZ wr Y (.slice E0 g.T.length d0) (.slice E1 g.N.length d1) (.slice ES g.S.length dS) (.slice EM g.M.length dM) (.slice E4 g.C.length d4) (.int .i64 g.dep) (.int .i64 g.loc)) w.heap.size (fun _=>True) v xs:=fun hr ht=>Kd.R_mono (Kd.R_step (Kd.R_types hr ST.out.boxY ht) (fun k hk _=>cZe wr Y (.slice E0 g.T.length d0) (.slice E1 g.N.length d1) (.slice ES g.S.length dS) (.slice EM g.M.length dM) (.slice E4 g.C.length d4) (.int .i64 g.dep) (.int .i64 g.loc) k hk.2)) (fun _ _=>trivial)
     refine bodyPost_ret (results_cell_row rfl _ _ Y _ _ _ _ rfl t1 Try.underlying28 rfl (by kernel_rfl)) rfl ⟨_,rfl,⟨_,_,_,_,_,rfl,t2 ST.out.rT (by decide),t2 ST.out.rN (by decide),t2 ST.out.rS (by decide),t2 ST.out.rM (by decide),t2 ST.out.rC (by decide)⟩,?_⟩
     exact ((((((ST.out.below.setCell ST.out.lo.2.1 _).setCell ST.out.lo.2.1 _).setCell ST.out.lo.2.1 _).setCell ST.out.lo.2.1 _).setCell ST.out.lo.2.1 _).setCell ST.out.lo.2.1 _).setCell ST.out.lo.2.1 _
def anw.T12:Bool × List (List Nat × List Nat):=(true,[([],[]),([],[]),([0,1],[0,1]),([2],[2]),([3],[3]),([4,3,3],[3,4]),([3],[3]),([5,6,3],[3,5,6]),([3,7],[3,7]),([8,5],[8]),([9],[9]),([10,9,9],[9,10]),([9],[9]),([11,12,9],[9,11,12]),([9,13],[9,13]),([14,11],[14]),([15],[15]),([16,15],[15,16]),([17,15],[15,17]),([18,15,15],[15,18]),([19],[19]),([20,19],[19,20]),([21,19],[19,21]),([19,22,15],[15,19,22]),([15,23],[15,23])])
def anw.B12:List Nat:=[0,0,3,7,15,31,15,127,255,511,1023,2047,1023,8191,16383,32767,65535,131071,262143,524287,1048575,2097151,4194303,8388607,16777215]
theorem anw.tab12:rtab .any (cZt Try.f22 12)=anw.T12:=by kernel_rfl
theorem anw.bits12:bZy anw.T12.2 anw.B12=true:=by kernel_rfl
def anw.T19:Bool × List (List Nat × List Nat):=(true,[([],[]),([],[]),([0,1],[0,1]),([2,2],[2]),([3],[3]),([3],[3]),([4,5,3],[3,4,5]),([3,6],[3,6]),([7,3],[7]),([8],[8]),([9,8,8],[8,9]),([8],[8]),([10,11,8],[8,10,11]),([8,12],[8,12]),([13,10,0,1,2,3,4,5,6,7,8,9,10,11,12,13],[13])])
def anw.B19:List Nat:=[0,0,3,7,15,15,63,127,255,511,1023,511,4095,8191,16383]
theorem anw.tab19:rtab .any (cZt Try.f22 19)=anw.T19:=by kernel_rfl
theorem anw.bits19:bZy anw.T19.2 anw.B19=true:=by kernel_rfl
theorem f41_ {W:World} {X:Nat} {n i:Int} (h:W.heap[X]?=some (rdO n i)):W.cell? ⟨X,0,none⟩=some (.int .i64 n)∧W.cell? ⟨X,1,none⟩=some (.int .i64 i):=by simp [World.cell?,h]
theorem fits_C {g:Pg} {C:List S66} (f:Fits g) (h:C.length=g.C.length):Fits ⟨g.T,g.N,g.S,g.M,C,g.dep,g.loc⟩:=⟨f.T,f.N,f.S,f.M,by show C.length≤_;rw [h];exact f.C,f.SS,f.MM⟩
theorem good_set {bs:List Int} (G:Good bs) (j:Nat) (v:Int) (h0:0≤v) (h1:v≤255):Good (bs.set j v) :=
  ⟨fun x hx => by
    rcases List.mem_or_eq_of_mem_set hx with h|h
    · exact G.byte x h
    · subst h;exact ⟨h0,h1⟩,by rw [List.length_set];exact G.len⟩
theorem anew_any (w:World) (base:Nat) (may:Nat→Prop) (Bb cb:Nat) (A0 A1 A2 A3 A4:Option Addr) (c0 c1 c2 c3 c4:Nat) (g:Pg) (bs:List Int) (f:Fits g) (lB:bs.length≤cb) (G:Good bs) (hmB:may Bb)
 (hst:∀ X W,Below w.heap.size w W→W.heap[X]?=some (.cells #[.slice A0 g.T.length c0,.slice A1 g.N.length c1,.slice A2 g.S.length c2,.slice A3 g.M.length c3,.slice A4 g.C.length c4,.int .i64 g.dep,.int .i64 g.loc] 28 (0,0))→StA base may w W X Bb cb A0 A1 A2 A3 A4 c0 c1 c2 c3 c4 g bs) :
 Calls Try.prog 22 #[aZ6 A0 A1 A2 A3 A4 c0 c1 c2 c3 c4 g,.slice (some ⟨Bb,0,none⟩) bs.length cb] w fun e w'=>e=.returned (.bool true)∧Wq may w w':=by
 have st:=hst _ _ (aZa (Below.refl w.heap.size w) _) (heap_alloc_new w _)
 have HG:=hid_ G
 clear hst G
 unfold aZ6
 go_enter Try.func22,Try.ntmps22
 go_upto_region 1 with (fail)
 generalize w.alloc (.cells #[.slice A0 g.T.length c0,.slice A1 g.N.length c1,.slice A2 g.S.length c2,.slice A3 g.M.length c3,.slice A4 g.C.length c4,.int .i64 g.dep,.int .i64 g.loc] 28)=W0 at st ⊢
 generalize w.heap.size=X at st ⊢
 obtain ⟨x0,x1,x2,x3,x4,x5,x6⟩:=aZm st.box
 have ST0:=hid_ st
 clear st
 go_wp2_with (fail)
 clear x0 x1 x2 x3 x4 x5 x6
 refine (show Calls _ _ _ _ _ from fZD W0 A0 A1 A2 A3 A4 c0 c1 c2 c3 c4 g ST0.out.pg f).mono ?_
 rintro e W1 ⟨tv,ev,rfl,-,-,bel⟩
 have ST1:=hid_ (ST0.out.next bel)
 clear ST0 bel
 obtain ⟨x0,x1,x2,x3,x4,x5,x6⟩:=aZm ST1.out.box
 go_wp2_with (fail)
 clear x0 x1 x2 x3 x4 x5 x6
 refine (show Calls _ _ _ _ _ from prog_u W1 A0 A1 A2 A3 A4 c0 c1 c2 c3 c4 g ST1.out.pg f).mono ?_
 rintro e W2 ⟨ev0,rfl,-,bel⟩
 have ST2:=hid_ (ST1.out.next bel)
 clear ST1 bel
 generalize mostR (aZt g)=mm
 generalize eZy g.C.length (aZt g)=ss
 obtain ⟨x0,x1,x2,x3,x4,x5,x6⟩:=aZm ST2.out.box
 go_wp2_with (fail)
 clear x0 x1 x2 x3 x4 x5 x6
 go_loopw [25] (fun s25 wr=>∃ (j:Nat) (C:List S66),s25=.int .i64 j∧j≤g.C.length∧C.length=g.C.length∧StA base may w wr X Bb cb A0 A1 A2 A3 A4 c0 c1 c2 c3 c4 ⟨g.T,g.N,g.S,g.M,C,g.dep,g.loc⟩ bs) (fun s25 _=>g.C.length - (intOf s25).toNat)
 case atStart=>exact ⟨0,g.C,rfl,Nat.zero_le _,rfl,ST2.out⟩
 case round =>
  obtain ⟨j,C,rfl,hj,hCl,st⟩:=hrel
  by_cases hlt:j<g.C.length
  ·
   obtain ⟨b,cur,hA,hm,hh⟩:=st.row4 (by show 0<C.length;omega)
   obtain ⟨x,hx⟩:∃ x,C[j]?=some x:=⟨_,List.getElem?_eq_getElem (by omega)⟩
   obtain ⟨ad,ha,k0,-⟩:=eZY st.C (j:Int) (by omega) (by show (j:Int)<(C.length:Int);omega)
   rw [hA] at ha
   injection ha with ha
   subst ha
   rw [Int.toNat_natCast,cZ9] at k0
   generalize (aZi C (j:Int)).f0=f0 at k0
   have yf:=aZf hh (j*4)
   obtain ⟨x0,x1,x2,x3,x4,x5,x6⟩:=aZm st.box
   rw [hA] at x4
   have x4':wr.cell? ⟨X,4,none⟩=some (.slice (some ⟨b,0,none⟩) g.C.length c4):=by rw [x4,←hCl]
   have HS:=hid_ (And.intro st (And.intro (st.put hA hm hh hx 35) hCl))
   have i0:(0:Int)≤(j:Int):=by omega
   have i1:(j:Int)<(g.C.length:Int):=by omega
   clear st hA hm hh hx x4 hCl x0 x1 x2 x3 x5 x6
   have ew:=hZR j _ hlt f.C
   have hms:g.C.length - (intOf (.int .i64 ((j+1:Nat):Int))).toNat<g.C.length - (intOf (.int .i64 (j:Int))).toNat:=by simp [intOf];omega
   have EW:=hid_ (And.intro ew hms)
   clear ew hms
   by_cases he:(j:Int) % 2=0
   ·
    have hb:((j:Int) % 2 == 0)=true:=beq_iff_eq.2 he
    clear he
    go_wp2_with (fail)
    go_roundw
    case rel=>exact ⟨j+1,C.set j ⟨35,x.f1,x.f2,x.f3⟩,by rw [EW.out.1],hlt,by rw [List.length_set];exact HS.out.2.2,HS.out.2.1⟩
    case measure=>rw [EW.out.1];exact EW.out.2
   ·
    have hb:((j:Int) % 2 == 0)=false:=beq_eq_false_iff_ne.2 he
    clear he
    go_wp2_with (fail)
    go_roundw
    case rel=>exact ⟨j+1,C,by rw [EW.out.1],hlt,HS.out.2.2,HS.out.1⟩
    case measure=>rw [EW.out.1];exact EW.out.2
  ·
   have hge:¬(j:Int)<(g.C.length:Int):=by omega
   have HCL:=hid_ hCl
   have f':=fits_C f hCl
   obtain ⟨W3,hW3⟩:∃ W3,W3=wr:=⟨_,rfl⟩
   subst hW3
   have ST3:=hid_ st
   obtain ⟨g',hg'⟩:∃ g':Pg,g'=⟨g.T,g.N,g.S,g.M,C,g.dep,g.loc⟩:=⟨_,rfl⟩
   rw [←hg'] at f' st
   have ST3:=hid_ st
   obtain ⟨x0,x1,x2,x3,x4,x5,x6⟩:=aZm st.box
   clear hlt st hCl hj hg'
   go_wp2_with (fail)
   clear x0 x1 x2 x3 x4 x5 x6
   refine (show Calls _ _ _ _ _ from prog_u W3 A0 A1 A2 A3 A4 c0 c1 c2 c3 c4 g' ST3.out.pg f').mono ?_
   rintro e W4 ⟨ev,rfl,hev,bel⟩
   have ST4:=hid_ (ST3.out.next bel)
   clear bel ST3
   generalize hm:mostR (aZt g')=most
   generalize hs:eZy g'.C.length (aZt g')=steps
   have HMS:=hid_ (And.intro hm hs)
   clear hm hs
   go_upto_region 10 with (fail)
   have bel:=aZa (Below.refl W4.heap.size W4) (.cells #[.int .i64 most,.int .i64 steps] 31)
   have s6:=heap_alloc_new W4 (.cells #[.int .i64 most,.int .i64 steps] 31)
   have ST5:=hid_ (ST4.out.next bel)
   have hev5:=hev.below bel
   clear ST4 bel hev
   generalize W4.alloc (.cells #[.int .i64 most,.int .i64 steps] 31)=W5 at s6 ST5 hev5 ⊢
   generalize W4.heap.size=X6 at s6 ⊢
   have HE5:=hid_ (And.intro s6 hev5)
   clear s6 hev5
   obtain ⟨x0,x1,x2,x3,x4,x5,x6⟩:=aZm ST5.out.box
   go_wp2_with (fail)
   clear x0 x1 x2 x3 x4 x5 x6
   refine (show Calls _ _ _ _ _ from gZd W5 A0 A1 A2 A3 A4 c0 c1 c2 c3 c4 g' ST5.out.pg f').mono ?_
   rintro e W6 ⟨rfl,bel⟩
   rw [HMS.out.1,HMS.out.2]
   have ST6:=hid_ (ST5.out.next bel)
   have HE6:=hid_ (And.intro (aZc HE5.out.1 bel) (HE5.out.2.below bel))
   clear ST5 HE5 bel
   have hcase:codeR (errR (aZt g'))=0∨(codeR (errR (aZt g'))≠0∧(toldR (aZt g')).length=0):=by
    cases ha:aZt g' with
    | error fe=>obtain ⟨i,n⟩:=fe;exact .inr ⟨by have:=cZM g' i n;rw [ha] at this;exact this rfl,rfl⟩
    | ok tm=>exact .inl rfl
   have hnum:=cZM g'
   generalize hr:errR (aZt g')=er at hcase hnum
   have HER:=hid_ hr
   clear hr
   generalize hcn:codeR er=cn at hcase
   generalize hca:atR er=ca
   have HC:=hid_ (And.intro hcn hca)
   have HN:=hid_ hnum
   have HCA:=hid_ hcase
   clear hcn hca hnum hcase
   obtain ⟨p0,p1,p2⟩:=aZ5 W6 (.cells #[.int .i64 most,.int .i64 steps] 31) (rdO 0 0)
   go_upto_region 11 with ((with_reducible refine aZD (t:=41) (p:=9) rfl ?_);refine wpList_store_row rfl 41 (.tmp 9) (.tmp 46) rfl (W6.heap.size+1) (rdC cn ca) rfl rfl 41 (rdC 0 0) p1 (bZe cn ca) (bZg 0 0 cn ca) (bZ5 cn ca) ?_)
   have q0:=(aZk _ (W6.heap.size+1) (rdC cn ca) W6.heap.size (by omega)).trans p0
   have q1:=setRow_heap _ _ _ (rdC cn ca) _ _ p1
   have bel:Below W6.heap.size W6 (((W6.alloc (.cells #[.int .i64 most,.int .i64 steps] 31)).alloc (rdO 0 0)).setRow (W6.heap.size+1) (rdC cn ca)):=below_setRow p2 (by omega) _
   have ST7:=hid_ (ST6.out.next bel)
   have HE7:=hid_ (And.intro (And.intro q0 q1) (And.intro (aZc HE6.out.1 bel) (HE6.out.2.below bel)))
   clear p0 p1 p2 q0 q1 bel ST6 HE6
   generalize ((W6.alloc (.cells #[.int .i64 most,.int .i64 steps] 31)).alloc (rdO 0 0)).setRow (W6.heap.size+1) (rdC cn ca)=W7 at ST7 HE7 ⊢
   generalize W6.heap.size+1=X9 at HE7 ⊢
   generalize W6.heap.size=X8 at HE7 ⊢
   obtain ⟨x0,x1,x2,x3,x4,x5,x6⟩:=aZm ST7.out.box
   go_wp2_with (fail)
   clear x0 x1 x2 x3 x4 x5 x6
   refine (show Calls _ _ _ _ _ from fZD W7 A0 A1 A2 A3 A4 c0 c1 c2 c3 c4 g' ST7.out.pg f').mono ?_
   rintro e W ⟨tv2,ev2,rfl,htv,hev2,bel⟩
   obtain ⟨At,ct,rfl⟩:=Kd.R_slice htv
   have ST:=hid_ (ST7.out.next bel)
   have HS8:=hid_ (aZc HE7.out.1.1 bel)
   have HF9:=hid_ (aZc HE7.out.1.2 bel)
   have HS6:=hid_ (aZc HE7.out.2.1 bel)
   have hev:=HE7.out.2.2.below bel
   rw [HER.out] at hev hev2
   have HEV:=hid_ (And.intro hev hev2)
   have hcase:=HCA.out
   generalize (toldR (aZt g')).length=nt at hcase ⊢
   clear ST7 HE7 bel htv hev hev2 HCA
   go_upto_region 12 with (fail)
   have e39:=eq39
   go_cut [76] (fun s wx=>s=.bool false∧Below W.heap.size W wx)
   case first =>
    rcases hcase with hc0 | ⟨hc0,hn0⟩
    ·
     have e0:(cn == 0)=true:=beq_iff_eq.2 hc0
     have e1:(cn != 0)=false:=bne_eq_false_iff_eq.2 hc0
     clear hc0
     refine cZ0 (n:=25) (S:=fun w'=>Below W.heap.size W w') (ds:=[]) (bm 25 0) (by kernel_rfl) rfl (by kernel_rfl) (Below.refl _ _).drew (fun hHeld=>?_)
     refine bZa anw.tab12 anw.bits12 (fun HT_ HW_=>?_)
     refine take_ (i:=0) (N:=some 52) (v:=?_) (a':=?_) (bm 25 1) rfl rfl (aZz HT_.out HW_.out (by kernel_rfl)) (fun _ _ _ h=>h) (Or.inl ⟨by rfl,?_⟩) hHeld ?_ ?_
     rotate_left
     ·
      intro w' hS'
      refine bZz (x:=.tmp 6) (u:=.int .i64 most) (v:=.int .i64 steps) ?_ ?_ (aZc HS6.out hS')
      all_goals exact rfl
     rotate_left
     ·
      simp only [Act.put,sZa,sZb,sZc]
      rfl
     refine take_ (i:=1) (N:=some 53) (v:=?_) (a':=?_) (bm 25 3) rfl rfl (aZz HT_.out HW_.out (by kernel_rfl)) (fun _ _ _ h=>h) (Or.inl ⟨by rfl,?_⟩) hHeld ?_ ?_
     rotate_left
     ·
      intro w' hS'
      refine bZz (x:=.tmp 8) (u:=.int .i64 most) (v:=.int .i64 steps) ?_ ?_ (aZc HS8.out hS')
      all_goals exact rfl
     rotate_left
     ·
      simp only [Act.put,sZa,sZb,sZc]
      rfl
     refine aZC (i:=2) (N:=some 54) (v:=?_) (a':=?_) (bm 25 7) rfl rfl (aZl HT_.out (by kernel_rfl)) (fun _ _ _ h=>h) (Or.inl ⟨by rfl,?_⟩) ?_ ?_;rotate_left;(intro w';go_simp;with_reducible rfl);rotate_left;(simp only [Act.put,sZa,sZb,sZc];rfl)
     refine aZC (i:=3) (N:=some 55) (v:=?_) (a':=?_) (bm 25 15) rfl rfl (aZl HT_.out (by kernel_rfl)) (fun _ _ _ h=>h) (Or.inl ⟨by rfl,?_⟩) ?_ ?_;rotate_left;(intro w';go_simp;with_reducible rfl);rotate_left;(simp only [Act.put,sZa,sZb,sZc];rfl)
     refine aZC (i:=4) (N:=some 56) (v:=?_) (a':=?_) (bm 25 31) rfl rfl (aZl HT_.out (by kernel_rfl)) (fun _ _ _ h=>h) (Or.inl ⟨by rfl,?_⟩) ?_ ?_;rotate_left;(intro w';go_simp;with_reducible rfl);rotate_left;(simp only [Act.put,sZa,sZb,sZc];rfl)
     refine take_ (i:=6) (N:=some 58) (v:=?_) (a':=?_) (bm 25 95) rfl rfl (aZz HT_.out HW_.out (by kernel_rfl)) (fun _ _ _ h=>h) (Or.inl ⟨by rfl,?_⟩) hHeld ?_ ?_
     rotate_left
     ·
      intro w' hS'
      refine bZF (x:=.tmp 9) (n:=cn) (i:=ca) ?_ ?_ (aZc HF9.out hS')
      all_goals exact rfl
     rotate_left
     ·
      simp only [Act.put,sZa,sZb,sZc]
      rfl
     refine one_ (i:=5) (N:=some 57) (bm 25 127) rfl rfl (aZU HT_.out (by kernel_rfl)) (by decide) (fun K hK=>?_)
     go_simp
     go_at_call 16
     (with_reducible refine (show Calls _ _ _ _ _ from dZH er ev _ (HEV.out.1.below hHeld) HN.out).mono ?_)
     rintro e w1 ⟨rfl,bel1⟩
     rw [HC.out.1,HC.out.2]
     refine hK.out _ _ (hHeld.trans (bel1.mono hHeld.size)) (fun hHeld=>?_)
     clear hK K
     refine aZC (i:=7) (N:=some 59) (v:=?_) (a':=?_) (bm 25 255) rfl rfl (aZl HT_.out (by kernel_rfl)) (fun _ _ _ h=>h) (Or.inl ⟨by rfl,?_⟩) ?_ ?_;rotate_left;(intro w';go_simp;with_reducible rfl);rotate_left;(simp only [Act.put,sZa,sZb,sZc];rfl)
     refine aZC (i:=8) (N:=some 60) (v:=?_) (a':=?_) (bm 25 511) rfl rfl (aZl HT_.out (by kernel_rfl)) (fun _ _ _ h=>h) (Or.inl ⟨by rfl,?_⟩) ?_ ?_;rotate_left;(intro w';go_simp;with_reducible rfl);rotate_left;(simp only [Act.put,sZa,sZb,sZc];rfl)
     refine aZC (i:=9) (N:=some 61) (v:=?_) (a':=?_) (bm 25 1023) rfl rfl (aZl HT_.out (by kernel_rfl)) (fun _ _ _ h=>h) (Or.inl ⟨by rfl,?_⟩) ?_ ?_;rotate_left;(intro w';go_simp;with_reducible rfl);rotate_left;(simp only [Act.put,sZa,sZb,sZc];rfl)
     refine aZC (i:=10) (N:=some 62) (v:=?_) (a':=?_) (bm 25 2047) rfl rfl (aZl HT_.out (by kernel_rfl)) (fun _ _ _ h=>h) (Or.inl ⟨by rfl,?_⟩) ?_ ?_;rotate_left;(intro w';go_simp;with_reducible rfl);rotate_left;(simp only [Act.put,sZa,sZb,sZc];rfl)
     refine take_ (i:=12) (N:=some 64) (v:=?_) (a':=?_) (bm 25 6143) rfl rfl (aZz HT_.out HW_.out (by kernel_rfl)) (fun _ _ _ h=>h) (Or.inl ⟨by rfl,?_⟩) hHeld ?_ ?_
     rotate_left
     ·
      intro w' hS'
      refine bZF (x:=.tmp 9) (n:=cn) (i:=ca) ?_ ?_ (aZc HF9.out hS')
      all_goals exact rfl
     rotate_left
     ·
      simp only [Act.put,sZa,sZb,sZc]
      rfl
     refine one_ (i:=11) (N:=some 63) (bm 25 8191) rfl rfl (aZU HT_.out (by kernel_rfl)) (by decide) (fun K hK=>?_)
     go_simp
     go_at_call 16
     (with_reducible refine (show Calls _ _ _ _ _ from dZH er ev2 _ (HEV.out.2.below hHeld) HN.out).mono ?_)
     rintro e w1 ⟨rfl,bel1⟩
     rw [HC.out.1,HC.out.2]
     refine hK.out _ _ (hHeld.trans (bel1.mono hHeld.size)) (fun hHeld=>?_)
     clear hK K
     refine aZC (i:=13) (N:=some 65) (v:=?_) (a':=?_) (bm 25 16383) rfl rfl (aZl HT_.out (by kernel_rfl)) (fun _ _ _ h=>h) (Or.inl ⟨by rfl,?_⟩) ?_ ?_;rotate_left;(intro w';go_simp;with_reducible rfl);rotate_left;(simp only [Act.put,sZa,sZb,sZc];rfl)
     refine aZC (i:=14) (N:=some 66) (v:=?_) (a':=?_) (bm 25 32767) rfl rfl (aZl HT_.out (by kernel_rfl)) (fun _ _ _ h=>h) (Or.inl ⟨by rfl,?_⟩) ?_ ?_;rotate_left;(intro w';go_simp;with_reducible rfl);rotate_left;(simp only [Act.put,sZa,sZb,sZc];rfl)
     refine aZC (i:=15) (N:=some 67) (v:=?_) (a':=?_) (bm 25 65535) rfl rfl (aZl HT_.out (by kernel_rfl)) (fun _ _ _ h=>h) (Or.inl ⟨by rfl,?_⟩) ?_ ?_;rotate_left;(intro w';go_simp;with_reducible rfl);rotate_left;(simp only [Act.put,sZa,sZb,sZc];rfl)
     refine aZC (i:=16) (N:=some 68) (v:=?_) (a':=?_) (bm 25 131071) rfl rfl (aZl HT_.out (by kernel_rfl)) (fun _ _ _ h=>h) (Or.inl ⟨by rfl,?_⟩) ?_ ?_;rotate_left;(intro w';go_simp;with_reducible rfl);rotate_left;(simp only [Act.put,sZa,sZb,sZc];rfl)
     refine take_ (i:=17) (N:=some 69) (v:=?_) (a':=?_) (bm 25 262143) rfl rfl (aZz HT_.out HW_.out (by kernel_rfl)) (fun _ _ _ h=>h) (Or.inl ⟨by rfl,?_⟩) hHeld ?_ ?_
     rotate_left
     ·
      intro w' hS'
      obtain ⟨y0,y1⟩:=f41_ (aZc HF9.out hS')
      go_simp
      with_reducible rfl
     rotate_left
     ·
      simp only [Act.put,sZa,sZb,sZc]
      rfl
     refine aZC (i:=18) (N:=some 70) (v:=?_) (a':=?_) (bm 25 524287) rfl rfl (aZl HT_.out (by kernel_rfl)) (fun _ _ _ h=>h) (Or.inl ⟨by rfl,?_⟩) ?_ ?_;rotate_left;(intro w';go_simp;with_reducible rfl);rotate_left;(simp only [Act.put,sZa,sZb,sZc];rfl)
     refine aZC (i:=19) (N:=some 71) (v:=?_) (a':=?_) (bm 25 1048575) rfl rfl (aZl HT_.out (by kernel_rfl)) (fun _ _ _ h=>h) (Or.inl ⟨by rfl,?_⟩) ?_ ?_;rotate_left;(intro w';go_simp;with_reducible rfl);rotate_left;(simp only [Act.put,sZa,sZb,sZc];rfl)
     refine aZC (i:=20) (N:=some 72) (v:=undef) (a':=?_) (bm 25 2097151) rfl rfl (aZl HT_.out (by kernel_rfl)) (fun _ _ _ h=>h) (Or.inr ⟨by rfl,rfl⟩) ?_ ?_
     rotate_left
     ·
      simp only [Act.put,sZa,sZb,sZc]
      rfl
     refine aZC (i:=21) (N:=some 73) (v:=undef) (a':=?_) (bm 25 4194303) rfl rfl (aZl HT_.out (by kernel_rfl)) (fun _ _ _ h=>h) (Or.inr ⟨by rfl,rfl⟩) ?_ ?_
     rotate_left
     ·
      simp only [Act.put,sZa,sZb,sZc]
      rfl
     refine aZC (i:=22) (N:=some 74) (v:=undef) (a':=?_) (bm 25 8388607) rfl rfl (aZl HT_.out (by kernel_rfl)) (fun _ _ _ h=>h) (Or.inr ⟨by rfl,rfl⟩) ?_ ?_
     rotate_left
     ·
      simp only [Act.put,sZa,sZb,sZc]
      rfl
     refine aZC (i:=23) (N:=some 75) (v:=?_) (a':=?_) (bm 25 16777215) rfl rfl (aZl HT_.out (by kernel_rfl)) (fun _ _ _ h=>h) (Or.inl ⟨by rfl,?_⟩) ?_ ?_;rotate_left;(intro w';go_simp;with_reducible rfl);rotate_left;(simp only [Act.put,sZa,sZb,sZc];rfl)
     refine aZC (i:=24) (N:=some 76) (v:=?_) (a':=?_) (bm 25 33554431) rfl rfl (aZl HT_.out (by kernel_rfl)) (fun _ _ _ h=>h) (Or.inl ⟨by rfl,?_⟩) ?_ ?_;rotate_left;(intro w';go_simp;with_reducible rfl);rotate_left;(simp only [Act.put,sZa,sZb,sZc];rfl)
     refine eZl (bZ8 HT_.out (by kernel_rfl)) ?_
     go_wp2_with (fail)
     go_meet
     exact ⟨rfl,hHeld⟩
    ·
     have e0:(cn == 0)=false:=beq_eq_false_iff_ne.2 hc0
     have e1:(cn != 0)=true:=bne_iff_ne.2 hc0
     subst hn0
     clear hc0
     refine cZ0 (n:=25) (S:=fun w'=>Below W.heap.size W w') (ds:=[]) (bm 25 0) (by kernel_rfl) rfl (by kernel_rfl) (Below.refl _ _).drew (fun hHeld=>?_)
     refine bZa anw.tab12 anw.bits12 (fun HT_ HW_=>?_)
     refine take_ (i:=0) (N:=some 52) (v:=?_) (a':=?_) (bm 25 1) rfl rfl (aZz HT_.out HW_.out (by kernel_rfl)) (fun _ _ _ h=>h) (Or.inl ⟨by rfl,?_⟩) hHeld ?_ ?_
     rotate_left
     ·
      intro w' hS'
      refine bZz (x:=.tmp 6) (u:=.int .i64 most) (v:=.int .i64 steps) ?_ ?_ (aZc HS6.out hS')
      all_goals exact rfl
     rotate_left
     ·
      simp only [Act.put,sZa,sZb,sZc]
      rfl
     refine take_ (i:=1) (N:=some 53) (v:=?_) (a':=?_) (bm 25 3) rfl rfl (aZz HT_.out HW_.out (by kernel_rfl)) (fun _ _ _ h=>h) (Or.inl ⟨by rfl,?_⟩) hHeld ?_ ?_
     rotate_left
     ·
      intro w' hS'
      refine bZz (x:=.tmp 8) (u:=.int .i64 most) (v:=.int .i64 steps) ?_ ?_ (aZc HS8.out hS')
      all_goals exact rfl
     rotate_left
     ·
      simp only [Act.put,sZa,sZb,sZc]
      rfl
     refine aZC (i:=2) (N:=some 54) (v:=?_) (a':=?_) (bm 25 7) rfl rfl (aZl HT_.out (by kernel_rfl)) (fun _ _ _ h=>h) (Or.inl ⟨by rfl,?_⟩) ?_ ?_;rotate_left;(intro w';go_simp;with_reducible rfl);rotate_left;(simp only [Act.put,sZa,sZb,sZc];rfl)
     refine aZC (i:=3) (N:=some 55) (v:=?_) (a':=?_) (bm 25 15) rfl rfl (aZl HT_.out (by kernel_rfl)) (fun _ _ _ h=>h) (Or.inl ⟨by rfl,?_⟩) ?_ ?_;rotate_left;(intro w';go_simp;with_reducible rfl);rotate_left;(simp only [Act.put,sZa,sZb,sZc];rfl)
     refine aZC (i:=4) (N:=some 56) (v:=?_) (a':=?_) (bm 25 31) rfl rfl (aZl HT_.out (by kernel_rfl)) (fun _ _ _ h=>h) (Or.inl ⟨by rfl,?_⟩) ?_ ?_;rotate_left;(intro w';go_simp;with_reducible rfl);rotate_left;(simp only [Act.put,sZa,sZb,sZc];rfl)
     refine take_ (i:=6) (N:=some 58) (v:=?_) (a':=?_) (bm 25 95) rfl rfl (aZz HT_.out HW_.out (by kernel_rfl)) (fun _ _ _ h=>h) (Or.inl ⟨by rfl,?_⟩) hHeld ?_ ?_
     rotate_left
     ·
      intro w' hS'
      refine bZF (x:=.tmp 9) (n:=cn) (i:=ca) ?_ ?_ (aZc HF9.out hS')
      all_goals exact rfl
     rotate_left
     ·
      simp only [Act.put,sZa,sZb,sZc]
      rfl
     refine one_ (i:=5) (N:=some 57) (bm 25 127) rfl rfl (aZU HT_.out (by kernel_rfl)) (by decide) (fun K hK=>?_)
     go_simp
     go_at_call 16
     (with_reducible refine (show Calls _ _ _ _ _ from dZH er ev _ (HEV.out.1.below hHeld) HN.out).mono ?_)
     rintro e w1 ⟨rfl,bel1⟩
     rw [HC.out.1,HC.out.2]
     refine hK.out _ _ (hHeld.trans (bel1.mono hHeld.size)) (fun hHeld=>?_)
     clear hK K
     refine aZC (i:=7) (N:=some 59) (v:=?_) (a':=?_) (bm 25 255) rfl rfl (aZl HT_.out (by kernel_rfl)) (fun _ _ _ h=>h) (Or.inl ⟨by rfl,?_⟩) ?_ ?_;rotate_left;(intro w';go_simp;with_reducible rfl);rotate_left;(simp only [Act.put,sZa,sZb,sZc];rfl)
     refine aZC (i:=8) (N:=some 60) (v:=?_) (a':=?_) (bm 25 511) rfl rfl (aZl HT_.out (by kernel_rfl)) (fun _ _ _ h=>h) (Or.inl ⟨by rfl,?_⟩) ?_ ?_;rotate_left;(intro w';go_simp;with_reducible rfl);rotate_left;(simp only [Act.put,sZa,sZb,sZc];rfl)
     refine aZC (i:=9) (N:=some 61) (v:=?_) (a':=?_) (bm 25 1023) rfl rfl (aZl HT_.out (by kernel_rfl)) (fun _ _ _ h=>h) (Or.inl ⟨by rfl,?_⟩) ?_ ?_;rotate_left;(intro w';go_simp;with_reducible rfl);rotate_left;(simp only [Act.put,sZa,sZb,sZc];rfl)
     refine aZC (i:=10) (N:=some 62) (v:=?_) (a':=?_) (bm 25 2047) rfl rfl (aZl HT_.out (by kernel_rfl)) (fun _ _ _ h=>h) (Or.inl ⟨by rfl,?_⟩) ?_ ?_;rotate_left;(intro w';go_simp;with_reducible rfl);rotate_left;(simp only [Act.put,sZa,sZb,sZc];rfl)
     refine take_ (i:=12) (N:=some 64) (v:=?_) (a':=?_) (bm 25 6143) rfl rfl (aZz HT_.out HW_.out (by kernel_rfl)) (fun _ _ _ h=>h) (Or.inl ⟨by rfl,?_⟩) hHeld ?_ ?_
     rotate_left
     ·
      intro w' hS'
      refine bZF (x:=.tmp 9) (n:=cn) (i:=ca) ?_ ?_ (aZc HF9.out hS')
      all_goals exact rfl
     rotate_left
     ·
      simp only [Act.put,sZa,sZb,sZc]
      rfl
     refine one_ (i:=11) (N:=some 63) (bm 25 8191) rfl rfl (aZU HT_.out (by kernel_rfl)) (by decide) (fun K hK=>?_)
     go_simp
     go_at_call 16
     (with_reducible refine (show Calls _ _ _ _ _ from dZH er ev2 _ (HEV.out.2.below hHeld) HN.out).mono ?_)
     rintro e w1 ⟨rfl,bel1⟩
     rw [HC.out.1,HC.out.2]
     refine hK.out _ _ (hHeld.trans (bel1.mono hHeld.size)) (fun hHeld=>?_)
     clear hK K
     refine aZC (i:=13) (N:=some 65) (v:=?_) (a':=?_) (bm 25 16383) rfl rfl (aZl HT_.out (by kernel_rfl)) (fun _ _ _ h=>h) (Or.inl ⟨by rfl,?_⟩) ?_ ?_;rotate_left;(intro w';go_simp;with_reducible rfl);rotate_left;(simp only [Act.put,sZa,sZb,sZc];rfl)
     refine aZC (i:=14) (N:=some 66) (v:=?_) (a':=?_) (bm 25 32767) rfl rfl (aZl HT_.out (by kernel_rfl)) (fun _ _ _ h=>h) (Or.inl ⟨by rfl,?_⟩) ?_ ?_;rotate_left;(intro w';go_simp;with_reducible rfl);rotate_left;(simp only [Act.put,sZa,sZb,sZc];rfl)
     refine aZC (i:=15) (N:=some 67) (v:=?_) (a':=?_) (bm 25 65535) rfl rfl (aZl HT_.out (by kernel_rfl)) (fun _ _ _ h=>h) (Or.inl ⟨by rfl,?_⟩) ?_ ?_;rotate_left;(intro w';go_simp;with_reducible rfl);rotate_left;(simp only [Act.put,sZa,sZb,sZc];rfl)
     refine aZC (i:=16) (N:=some 68) (v:=?_) (a':=?_) (bm 25 131071) rfl rfl (aZl HT_.out (by kernel_rfl)) (fun _ _ _ h=>h) (Or.inl ⟨by rfl,?_⟩) ?_ ?_;rotate_left;(intro w';go_simp;with_reducible rfl);rotate_left;(simp only [Act.put,sZa,sZb,sZc];rfl)
     refine take_ (i:=17) (N:=some 69) (v:=?_) (a':=?_) (bm 25 262143) rfl rfl (aZz HT_.out HW_.out (by kernel_rfl)) (fun _ _ _ h=>h) (Or.inl ⟨by rfl,?_⟩) hHeld ?_ ?_
     rotate_left
     ·
      intro w' hS'
      obtain ⟨y0,y1⟩:=f41_ (aZc HF9.out hS')
      go_simp
      with_reducible rfl
     rotate_left
     ·
      simp only [Act.put,sZa,sZb,sZc]
      rfl
     refine aZC (i:=18) (N:=some 70) (v:=?_) (a':=?_) (bm 25 524287) rfl rfl (aZl HT_.out (by kernel_rfl)) (fun _ _ _ h=>h) (Or.inl ⟨by rfl,?_⟩) ?_ ?_;rotate_left;(intro w';go_simp;with_reducible rfl);rotate_left;(simp only [Act.put,sZa,sZb,sZc];rfl)
     refine aZC (i:=19) (N:=some 71) (v:=?_) (a':=?_) (bm 25 1048575) rfl rfl (aZl HT_.out (by kernel_rfl)) (fun _ _ _ h=>h) (Or.inl ⟨by rfl,?_⟩) ?_ ?_;rotate_left;(intro w';go_simp;with_reducible rfl);rotate_left;(simp only [Act.put,sZa,sZb,sZc];rfl)
     refine aZC (i:=20) (N:=some 72) (v:=?_) (a':=?_) (bm 25 2097151) rfl rfl (aZl HT_.out (by kernel_rfl)) (fun _ _ _ h=>h) (Or.inl ⟨by rfl,?_⟩) ?_ ?_;rotate_left;(intro w';go_simp;with_reducible rfl);rotate_left;(simp only [Act.put,sZa,sZb,sZc];rfl)
     refine aZC (i:=21) (N:=some 73) (v:=?_) (a':=?_) (bm 25 4194303) rfl rfl (aZl HT_.out (by kernel_rfl)) (fun _ _ _ h=>h) (Or.inl ⟨by rfl,?_⟩) ?_ ?_;rotate_left;(intro w';go_simp;with_reducible rfl);rotate_left;(simp only [Act.put,sZa,sZb,sZc];rfl)
     refine aZC (i:=22) (N:=some 74) (v:=?_) (a':=?_) (bm 25 8388607) rfl rfl (aZl HT_.out (by kernel_rfl)) (fun _ _ _ h=>h) (Or.inl ⟨by rfl,?_⟩) ?_ ?_;rotate_left;(intro w';go_simp;with_reducible rfl);rotate_left;(simp only [Act.put,sZa,sZb,sZc];rfl)
     refine aZC (i:=23) (N:=some 75) (v:=?_) (a':=?_) (bm 25 16777215) rfl rfl (aZl HT_.out (by kernel_rfl)) (fun _ _ _ h=>h) (Or.inl ⟨by rfl,?_⟩) ?_ ?_;rotate_left;(intro w';go_simp;with_reducible rfl);rotate_left;(simp only [Act.put,sZa,sZb,sZc];rfl)
     refine aZC (i:=24) (N:=some 76) (v:=?_) (a':=?_) (bm 25 33554431) rfl rfl (aZl HT_.out (by kernel_rfl)) (fun _ _ _ h=>h) (Or.inl ⟨by rfl,?_⟩) ?_ ?_;rotate_left;(intro w';go_simp;with_reducible rfl);rotate_left;(simp only [Act.put,sZa,sZb,sZc];rfl)
     refine eZl (bZ8 HT_.out (by kernel_rfl)) ?_
     go_wp2_with (fail)
     go_meet
     exact ⟨rfl,hHeld⟩
   case rest =>
   obtain ⟨rfl,hbw⟩:=hcut
   obtain ⟨V,hV⟩:∃ V,V=wc:=⟨_,rfl⟩
   subst hV
   have STV:=hid_ (ST.out.next hbw)
   clear ST hbw HS8 HF9 HS6 HEV HN HC hcase
   go_wp2_with (fail)
   refine (show Calls _ _ _ _ _ from fZ0 V (some ⟨Bb,0,none⟩) cb bs STV.out.hB lB HG.out).mono ?_
   rintro e W9 ⟨v9,ev9,rfl,-,-,bel⟩
   have ST9:=hid_ (STV.out.next bel)
   clear STV bel
   generalize bmostR (aZE bs)=mb
   generalize bstepsR (aZE bs)=sb
   go_upto_if 81 with (fail)
   go_cut [] (fun wx=>∃ bs',bs'.length=bs.length∧Good bs'∧StA base may w wx X Bb cb A0 A1 A2 A3 A4 c0 c1 c2 c3 c4 g' bs')
   case first =>
    by_cases h4:4<bs.length
    ·
     have d4:decide ((bs.length:Int) > 4)=true:=decide_eq_true (by omega)
     have i4:(4:Int)<(bs.length:Int):=by omega
     obtain ⟨cur,hh,hsz⟩:=ST9.out.rowB
     obtain ⟨cv,y0⟩:∃ u,W9.cell? ⟨Bb,4,none⟩=some u:=⟨_,cZv hh (by omega)⟩
     have y1:=aZf hh 4
     have HH:=hid_ (And.intro (show (bs.set 4 0).length=bs.length from List.length_set ..) (And.intro (good_set HG.out 4 0 (by decide) (by decide)) (ST9.out.putB hmB 4 h4 0)))
     clear hh hsz h4
     go_wp2_with (fail)
     go_meet
     exact ⟨bs.set 4 0,HH.out⟩
    ·
     have d4:decide ((bs.length:Int) > 4)=false:=decide_eq_false (by omega)
     have i4:¬(4:Int)<(bs.length:Int):=by omega
     have HH:=hid_ (And.intro (rfl:bs.length=bs.length) (And.intro HG.out ST9.out))
     clear h4
     go_wp2_with (fail)
     go_meet
     exact ⟨bs,rfl,HH.out.2⟩
   case rest =>
   obtain ⟨bs',hbl,G',stc⟩:=hcut
   obtain ⟨W10,hW10⟩:∃ W10,W10=wc:=⟨_,rfl⟩
   subst hW10
   have lB':bs'.length≤cb:=by omega
   rw [←hbl]
   clear hbl
   have STC:=hid_ stc
   clear ST9 stc HG
   go_wp2_with (fail)
   refine (show Calls _ _ _ _ _ from fZ0 W10 (some ⟨Bb,0,none⟩) cb bs' STC.out.hB lB' G').mono ?_
   rintro e W11 ⟨v,ev3,rfl,hpg,hev,bel⟩
   have hfits:=hZv bs' G'
   have hnum:=iZk bs'
   have href:∀ W,Kd.C (Kd.int .u8) W (some ⟨Bb,0,none⟩) bs'.length bs'→Calls Try.prog 19 #[.slice (some ⟨Bb,0,none⟩) bs'.length cb] W (iZw W bs'):=fun W h=>eZc W (some ⟨Bb,0,none⟩) cb bs' h lB' G'
   unfold iZw at href
   generalize pgR (aZE bs')=gb at hpg hfits href
   generalize bmostR (aZE bs')=most2 at href ⊢
   generalize bstepsR (aZE bs')=steps2 at href ⊢
   generalize errR (aZE bs')=er2 at hev hnum href
   generalize hcn:codeR er2=cn2 at href
   generalize hca:atR er2=ca2 at href
   have HC2:=hid_ (And.intro hcn hca)
   have HREF:=hid_ href
   have HN2:=hid_ (And.intro hnum hfits)
   obtain ⟨E0,E1,E2,E3,E4,e0,e1,e2,e3,e4,rfl,hIE⟩:=hpg.read
   have ST11:=hid_ (STC.out.next bel)
   have HE2:=hid_ (And.intro hIE hev)
   clear hpg hev hIE hcn hca hnum hfits href bel STC
   unfold aZ6
   obtain ⟨p0,p1,p2⟩:=aZ5 W11 (.cells #[.slice E0 gb.T.length e0,.slice E1 gb.N.length e1,.slice E2 gb.S.length e2,.slice E3 gb.M.length e3,.slice E4 gb.C.length e4,.int .i64 gb.dep,.int .i64 gb.loc] 28) (.cells #[.int .i64 most2,.int .i64 steps2] 31)
   go_upto_region 18 with (fail)
   generalize (W11.alloc (.cells #[.slice E0 gb.T.length e0,.slice E1 gb.N.length e1,.slice E2 gb.S.length e2,.slice E3 gb.M.length e3,.slice E4 gb.C.length e4,.int .i64 gb.dep,.int .i64 gb.loc] 28)).alloc (.cells #[.int .i64 most2,.int .i64 steps2] 31)=W12 at p0 p1 p2 ⊢
   generalize W11.heap.size+1=b13 at p1 ⊢
   have ST12:=hid_ (ST11.out.next p2)
   have HE3:=hid_ (And.intro (HE2.out.1.below p2) (And.intro (HE2.out.2.below p2) (And.intro p0 p1)))
   clear p0 p1 p2 ST11 HE2
   generalize W11.heap.size=b12 at HE3 ⊢
   go_wp2_with (fail)
   refine (HREF.out W12 ST12.out.hB).mono ?_
   rintro e W13 ⟨v2,rfl,hpg2,bel⟩
   obtain ⟨D0,D1,D2,D3,D4,d0,d1,d2,d3,d4,rfl,hID⟩:=hpg2.read
   have HE4:=hid_ (And.intro (HE3.out.1.below bel) (And.intro (HE3.out.2.1.below bel) (And.intro (aZc HE3.out.2.2.1 bel) (And.intro (aZc HE3.out.2.2.2 bel) hID))))
   have ST13:=hid_ (ST12.out.next bel)
   clear hpg2 hID bel HE3 ST12 HREF
   unfold aZ6
   obtain ⟨p0,p1,p2,p3⟩:=bZj W13 (.cells #[.slice D0 gb.T.length d0,.slice D1 gb.N.length d1,.slice D2 gb.S.length d2,.slice D3 gb.M.length d3,.slice D4 gb.C.length d4,.int .i64 gb.dep,.int .i64 gb.loc] 28) (.cells #[.int .i64 most2,.int .i64 steps2] 31) (rdO 0 0)
   go_upto_region 19 with ((with_reducible refine aZD (t:=41) (p:=17) rfl ?_);refine wpList_store_row rfl 41 (.tmp 17) (.tmp 95) rfl (W13.heap.size+1+1) (rdC cn2 ca2) rfl rfl 41 (rdC 0 0) p2 (bZe cn2 ca2) (bZg 0 0 cn2 ca2) (bZ5 cn2 ca2) ?_)
   generalize ((W13.alloc (.cells #[.slice D0 gb.T.length d0,.slice D1 gb.N.length d1,.slice D2 gb.S.length d2,.slice D3 gb.M.length d3,.slice D4 gb.C.length d4,.int .i64 gb.dep,.int .i64 gb.loc] 28)).alloc (.cells #[.int .i64 most2,.int .i64 steps2] 31)).alloc (rdO 0 0)=W14 at p0 p1 p2 p3 ⊢
   have q0:=(aZk _ (W13.heap.size+1+1) (rdC cn2 ca2) W13.heap.size (by omega)).trans p0
   have q1:=(aZk _ (W13.heap.size+1+1) (rdC cn2 ca2) (W13.heap.size+1) (by omega)).trans p1
   have q2:=setRow_heap _ _ _ (rdC cn2 ca2) _ _ p2
   have bel:Below W13.heap.size W13 (W14.setRow (W13.heap.size+1+1) (rdC cn2 ca2)):=below_setRow p3 (by omega) _
   clear p0 p1 p2 p3
   have HR28:=hid_ (And.intro (aZc HE4.out.2.2.1 bel) q0)
   have HR31:=hid_ (And.intro (aZc HE4.out.2.2.2.1 bel) q1)
   have HR41:=hid_ q2
   have HIN:=hid_ (And.intro (HE4.out.1.below bel) (HE4.out.2.2.2.2.below bel))
   have HEV2:=hid_ (HE4.out.2.1.below bel)
   have HWW:=hid_ (ST13.out.next bel).wq
   clear HE4 ST13 q0 q1 q2 bel
   generalize W14.setRow (W13.heap.size+1+1) (rdC cn2 ca2)=W at HR28 HR31 HR41 HIN HEV2 HWW ⊢
   generalize W13.heap.size+1+1=b17 at HR41 ⊢
   generalize W13.heap.size+1=b16 at HR31 ⊢
   generalize W13.heap.size=b15 at HR28 ⊢
   have e39:=eq39
   simp only [Act.put]
   go_cut [4] (fun s wx=>s=.bool true∧Below W.heap.size W wx)
   case first =>
    refine cZ0 (n:=15) (S:=fun w'=>Below W.heap.size W w') (ds:=[]) (bm 15 0) (by kernel_rfl) rfl (by kernel_rfl) (Below.refl _ _).drew (fun hHeld=>?_)
    refine bZa anw.tab19 anw.bits19 (fun HT_ HW_=>?_)
    refine take_ (i:=0) (N:=some 96) (v:=?_) (a':=?_) (bm 15 1) rfl rfl (aZz HT_.out HW_.out (by kernel_rfl)) (fun _ _ _ h=>h) (Or.inl ⟨by rfl,?_⟩) hHeld ?_ ?_
    rotate_left
    ·
     intro w' hS'
     refine dZj (x:=.tmp 12) rfl ?_ ?_ (aZc HR28.out.1 hS')
     all_goals exact rfl
    rotate_left
    ·
     simp only [Act.put,sZa,sZb,sZc]
     rfl
    refine take_ (i:=1) (N:=some 97) (v:=?_) (a':=?_) (bm 15 3) rfl rfl (aZz HT_.out HW_.out (by kernel_rfl)) (fun _ _ _ h=>h) (Or.inl ⟨by rfl,?_⟩) hHeld ?_ ?_
    rotate_left
    ·
     intro w' hS'
     refine dZj (x:=.tmp 15) rfl ?_ ?_ (aZc HR28.out.2 hS')
     all_goals exact rfl
    rotate_left
    ·
     simp only [Act.put,sZa,sZb,sZc]
     rfl
    refine one_ (i:=2) (N:=some 98) (bm 15 7) rfl rfl (aZU HT_.out (by kernel_rfl)) (by decide) (fun K hK=>?_)
    go_simp
    go_at_call 20
    (refine (show Calls _ _ _ _ _ from fZG _ E0 E1 E2 E3 E4 e0 e1 e2 e3 e4 gb D0 D1 D2 D3 D4 d0 d1 d2 d3 d4 (HIN.out.2.below hHeld) (HIN.out.1.below hHeld) HN2.out.2).mono ?_)
    rintro e w1 ⟨rfl,bel1⟩
    refine hK.out _ _ (hHeld.trans (bel1.mono hHeld.size)) (fun hHeld=>?_)
    clear hK K
    refine aZC (i:=3) (N:=some 99) (v:=?_) (a':=?_) (bm 15 15) rfl rfl (aZl HT_.out (by kernel_rfl)) (fun _ _ _ h=>h) (Or.inl ⟨by rfl,?_⟩) ?_ ?_;rotate_left;(intro w';go_simp;with_reducible rfl);rotate_left;(simp only [Act.put,sZa,sZb,sZc];rfl)
    refine take_ (i:=4) (N:=some 100) (v:=?_) (a':=?_) (bm 15 31) rfl rfl (aZz HT_.out HW_.out (by kernel_rfl)) (fun _ _ _ h=>h) (Or.inl ⟨by rfl,?_⟩) hHeld ?_ ?_
    rotate_left
    ·
     intro w' hS'
     refine bZz (x:=.tmp 13) (u:=.int .i64 most2) (v:=.int .i64 steps2) ?_ ?_ (aZc HR31.out.1 hS')
     all_goals exact rfl
    rotate_left
    ·
     simp only [Act.put,sZa,sZb,sZc]
     rfl
    refine take_ (i:=5) (N:=some 101) (v:=?_) (a':=?_) (bm 15 63) rfl rfl (aZz HT_.out HW_.out (by kernel_rfl)) (fun _ _ _ h=>h) (Or.inl ⟨by rfl,?_⟩) hHeld ?_ ?_
    rotate_left
    ·
     intro w' hS'
     refine bZz (x:=.tmp 16) (u:=.int .i64 most2) (v:=.int .i64 steps2) ?_ ?_ (aZc HR31.out.2 hS')
     all_goals exact rfl
    rotate_left
    ·
     simp only [Act.put,sZa,sZb,sZc]
     rfl
    refine aZC (i:=6) (N:=some 102) (v:=?_) (a':=?_) (bm 15 127) rfl rfl (aZl HT_.out (by kernel_rfl)) (fun _ _ _ h=>h) (Or.inl ⟨by rfl,?_⟩) ?_ ?_;rotate_left;(intro w';go_simp;with_reducible rfl);rotate_left;(simp only [Act.put,sZa,sZb,sZc];rfl)
    refine aZC (i:=7) (N:=some 103) (v:=?_) (a':=?_) (bm 15 255) rfl rfl (aZl HT_.out (by kernel_rfl)) (fun _ _ _ h=>h) (Or.inl ⟨by rfl,?_⟩) ?_ ?_;rotate_left;(intro w';go_simp;with_reducible rfl);rotate_left;(simp only [Act.put,sZa,sZb,sZc];rfl)
    refine aZC (i:=8) (N:=some 104) (v:=?_) (a':=?_) (bm 15 511) rfl rfl (aZl HT_.out (by kernel_rfl)) (fun _ _ _ h=>h) (Or.inl ⟨by rfl,?_⟩) ?_ ?_;rotate_left;(intro w';go_simp;with_reducible rfl);rotate_left;(simp only [Act.put,sZa,sZb,sZc];rfl)
    refine aZC (i:=9) (N:=some 105) (v:=?_) (a':=?_) (bm 15 1023) rfl rfl (aZl HT_.out (by kernel_rfl)) (fun _ _ _ h=>h) (Or.inl ⟨by rfl,?_⟩) ?_ ?_;rotate_left;(intro w';go_simp;with_reducible rfl);rotate_left;(simp only [Act.put,sZa,sZb,sZc];rfl)
    refine take_ (i:=11) (N:=some 107) (v:=?_) (a':=?_) (bm 15 3071) rfl rfl (aZz HT_.out HW_.out (by kernel_rfl)) (fun _ _ _ h=>h) (Or.inl ⟨by rfl,?_⟩) hHeld ?_ ?_
    rotate_left
    ·
     intro w' hS'
     refine bZF (x:=.tmp 17) (n:=cn2) (i:=ca2) ?_ ?_ (aZc HR41.out hS')
     all_goals exact rfl
    rotate_left
    ·
     simp only [Act.put,sZa,sZb,sZc]
     rfl
    refine one_ (i:=10) (N:=some 106) (bm 15 4095) rfl rfl (aZU HT_.out (by kernel_rfl)) (by decide) (fun K hK=>?_)
    go_simp
    go_at_call 16
    (with_reducible refine (show Calls _ _ _ _ _ from dZH er2 ev3 _ (HEV2.out.below hHeld) HN2.out.1).mono ?_)
    rintro e w1 ⟨rfl,bel1⟩
    rw [HC2.out.1,HC2.out.2]
    refine hK.out _ _ (hHeld.trans (bel1.mono hHeld.size)) (fun hHeld=>?_)
    clear hK K
    refine aZC (i:=12) (N:=some 108) (v:=?_) (a':=?_) (bm 15 8191) rfl rfl (aZl HT_.out (by kernel_rfl)) (fun _ _ _ h=>h) (Or.inl ⟨by rfl,?_⟩) ?_ ?_;rotate_left;(intro w';go_simp;with_reducible rfl);rotate_left;(simp only [Act.put,sZa,sZb,sZc];rfl)
    refine aZC (i:=13) (N:=some 109) (v:=?_) (a':=?_) (bm 15 16383) rfl rfl (aZl HT_.out (by kernel_rfl)) (fun _ _ _ h=>h) (Or.inl ⟨by rfl,?_⟩) ?_ ?_;rotate_left;(intro w';go_simp;with_reducible rfl);rotate_left;(simp only [Act.put,sZa,sZb,sZc];rfl)
    refine aZC (i:=14) (N:=some 4) (v:=?_) (a':=?_) (bm 15 32767) rfl rfl (aZl HT_.out (by kernel_rfl)) (fun _ _ _ h=>h) (Or.inl ⟨by rfl,?_⟩) ?_ ?_;rotate_left;(intro w';go_simp;with_reducible rfl);rotate_left;(simp only [Act.put,sZa,sZb,sZc];rfl)
    refine eZl (bZ8 HT_.out (by kernel_rfl)) ?_
    go_wp2_with (fail)
    go_meet
    exact ⟨rfl,hHeld⟩
   case rest =>
    obtain ⟨rfl,hbw⟩:=hcut
    go_wp2_with (fail)
    go_ret
    exact ⟨rfl,HWW.out.trans (Wq.below hbw)⟩
end Go.Proofs.Ytbnplhmmbnmagaa.D
