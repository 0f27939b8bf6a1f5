/- A part of the proof of AuditBytes: walks written by a program of this session. -/
import Derived.Test.YtbnplhmmbnmagaazAYm2
set_option maxHeartbeats 4000000
set_option maxRecDepth 100000
set_option linter.unusedVariables false
set_option linter.unusedSimpArgs false
namespace Go.Proofs.Ytbnplhmmbnmagaa.All
open Go.RowKit Go.Proofs.YtbnplhmmbnmagaaW.PrintWords Go.Proofs.YtbnplhmmbnmagaaW.PrintLast Go.Proofs.YtbnplhmmbnmagaaW.PrintMore
attribute [local go_sem] bZn bZl bZR bZQ aZ6 aZ5 bZm bZk
attribute [local go_sem] Go.Proofs.YtbnplhmmbnmagaaX.binOp_leq Go.Proofs.YtbnplhmmbnmagaaX.binOp_geq Go.Proofs.YtbnplhmmbnmagaaX.binOp_gtr
theorem eqA66 (d:Nat) (w:World) (x0 y0:Int) (x1 y1:Int) (x2 y2:Int) (x3 y3:Int) :
    (Op.equalIn (d+2) 66 (.agg #[.int .i64 x0,.int .i64 x1,.int .i64 x2,.int .i64 x3]) (.agg #[.int .i64 y0,.int .i64 y1,.int .i64 y2,.int .i64 y3])).run Try.prog w=.ok (x0 == y0 && (x1 == y1 && (x2 == y2 && (x3 == y3)))) w:=by
  refine eqA_of Try.underlying66 (by kernel_rfl) ?_
  refine fZE (by rfl) (by go_simp;rfl) (by go_simp;rfl) (by go_simp) ?_
  refine fZE (by rfl) (by go_simp;rfl) (by go_simp;rfl) (by go_simp) ?_
  refine fZE (by rfl) (by go_simp;rfl) (by go_simp;rfl) (by go_simp) ?_
  exact eqf_last (by rfl) (by go_simp;rfl) (by go_simp;rfl) (by go_simp)
end Go.Proofs.Ytbnplhmmbnmagaa.All
namespace Go.Proofs.Ytbnplhmmbnmagaa.All
open Go.RowKit Go.Proofs.YtbnplhmmbnmagaaW.PrintWords Go.Proofs.YtbnplhmmbnmagaaW.PrintLast Go.Proofs.YtbnplhmmbnmagaaW.PrintMore
attribute [local go_sem] bZn bZl bZR bZQ aZ6 aZ5 bZm bZk
attribute [local go_sem] Go.Proofs.YtbnplhmmbnmagaaX.binOp_leq Go.Proofs.YtbnplhmmbnmagaaX.binOp_geq Go.Proofs.YtbnplhmmbnmagaaX.binOp_gtr
def IsS136 (w0 W:World) (g:Nat) (f0:List Int) (f1:Int) (f2:Int) (f3:Int):Prop:=∃ A0 c0,W.heap[g]?=some (.cells #[.slice A0 f0.length c0,.int .i64 f1,.int .i64 f2,.int .i64 f3] 136 (0,0))∧w0.heap.size≤g∧(Kd.C (Kd.int .u8) w0 A0 f0.length f0∧f0.length≤c0)
theorem IsS136.old {w0 W:World} {g:Nat} {f0:List Int} {f1 f2 f3:Int} (h:IsS136 w0 W g f0 f1 f2 f3):∃ A0 c0,W.heap[g]?=some (.cells #[.slice A0 f0.length c0,.int .i64 f1,.int .i64 f2,.int .i64 f3] 136 (0,0))∧w0.heap.size≤g∧Kd.C (Kd.int .u8) w0 A0 f0.length f0:=by
  obtain ⟨A0,c0,hb,hg,hr0⟩:=h
  exact ⟨A0,c0,hb,hg,hr0.1⟩
theorem IsS136.grown {w0 W:World} {g:Nat} {f0:List Int} {f1:Int} {f2:Int} {f3:Int} {W1:World} {row:Option Nat} (h:IsS136 w0 W g f0 f1 f2 f3) (hw:W.grownBy W1 row) (hne:some g≠row):IsS136 w0 W1 g f0 f1 f2 f3:=by
  obtain ⟨A0,c0,hb,hg,hr0⟩:=h
  exact ⟨A0,c0,blk_grown hb hw hne,hg,hr0⟩
theorem IsS136.below {w0 W:World} {g:Nat} {f0:List Int} {f1:Int} {f2:Int} {f3:Int} {W1:World} (h:IsS136 w0 W g f0 f1 f2 f3) (hw:Below W.heap.size W W1):IsS136 w0 W1 g f0 f1 f2 f3:=h.grown (aZZ hw none) (by simp)
theorem IsS136.alloc {w0 W:World} {g:Nat} {f0:List Int} {f1:Int} {f2:Int} {f3:Int} (h:IsS136 w0 W g f0 f1 f2 f3) (o:Obj):IsS136 w0 (W.alloc o) g f0 f1 f2 f3:=h.below (aZb (Below.refl _ _) o)
theorem IsS136.drewN {w0 W:World} {g:Nat} {f0:List Int} {f1:Int} {f2:Int} {f3:Int} (h:IsS136 w0 W g f0 f1 f2 f3) (m:Nat):IsS136 w0 (W.drewN m) g f0 f1 f2 f3:=h
theorem IsS136.drew {w0 W:World} {g:Nat} {f0:List Int} {f1:Int} {f2:Int} {f3:Int} (h:IsS136 w0 W g f0 f1 f2 f3):IsS136 w0 W.drew g f0 f1 f2 f3:=h
theorem IsS136.apart {w0 W:World} {g:Nat} {f0:List Int} {f1:Int} {f2:Int} {f3:Int} {α:Type} {d:Kd α} {e:Nat} {base:Nat} {ok:Nat→Prop} {v:Value} {xs:List α} (h:IsS136 w0 W g f0 f1 f2 f3) (ho:d.R e W base ok v xs) (ht:∀ q,q∈e :: d.E→q≠136):d.R e W base (fun k=>ok k∧k≠g) v xs:=by
  obtain ⟨A0,c0,hb,hg,hr0⟩:=h
  exact Kd.R_types ho hb ht
theorem IsS136.own_ne {w0 W:World} {g:Nat} {f0:List Int} {f1:Int} {f2:Int} {f3:Int} {α:Type} {d:Kd α} {e:Nat} {base:Nat} {ok:Nat→Prop} {v:Value} {xs:List α} (h:IsS136 w0 W g f0 f1 f2 f3) (ho:d.R e W base ok v xs) (ht:e≠136):some g≠v.ownBlock:=by
  obtain ⟨A0,c0,hb,hg,hr0⟩:=h
  exact Kd.R_ne ho hb ht
theorem IsS136.lt {w0 W:World} {g:Nat} {f0:List Int} {f1:Int} {f2:Int} {f3:Int} (h:IsS136 w0 W g f0 f1 f2 f3):g<W.heap.size:=by
  obtain ⟨A0,c0,hb,hg,hr0⟩:=h
  exact aZd hb
theorem IsS136.ge {w0 W:World} {g:Nat} {f0:List Int} {f1:Int} {f2:Int} {f3:Int} (h:IsS136 w0 W g f0 f1 f2 f3):w0.heap.size≤g:=by
  obtain ⟨A0,c0,hb,hg,hr0⟩:=h
  exact hg
theorem IsS136.far {w0 W:World} {g:Nat} {f0:List Int} {f1:Int} {f2:Int} {f3:Int} {p:Addr} (h:IsS136 w0 W g f0 f1 f2 f3) (hne:g≠p.block) (u:Value):IsS136 w0 (W.setCell p u) g f0 f1 f2 f3:=by
  obtain ⟨A0,c0,hb,hg,hr0⟩:=h
  exact ⟨A0,c0,blk_far hb hne u,hg,hr0⟩
theorem aZy {W:World} {g:Nat} {A0:Option Addr} {c0:Nat} {f0:List Int} {f1:Int} {f2:Int} {f3:Int} (h:W.heap[g]?=some (.cells #[.slice A0 f0.length c0,.int .i64 f1,.int .i64 f2,.int .i64 f3] 136 (0,0))):W.cell? ⟨g,0,none⟩=some (.slice A0 f0.length c0):=(aZc h 0).trans rfl
theorem aZx {W:World} {g:Nat} {A0:Option Addr} {c0:Nat} {f0:List Int} {f1:Int} {f2:Int} {f3:Int} (h:W.heap[g]?=some (.cells #[.slice A0 f0.length c0,.int .i64 f1,.int .i64 f2,.int .i64 f3] 136 (0,0))):W.cell? ⟨g,1,none⟩=some (.int .i64 f1):=(aZc h 1).trans rfl
theorem IsS136.set_1 {w0 W:World} {g:Nat} {f0:List Int} {f1:Int} {f2:Int} {f3:Int} (h:IsS136 w0 W g f0 f1 f2 f3) (x:Int):IsS136 w0 (W.setCell ⟨g,1,none⟩ (.int .i64 x)) g f0 x f2 f3:=by
  obtain ⟨A0,c0,hb,hg,hr0⟩:=h
  exact ⟨A0,c0,by simpa using eZK hb 1 (.int .i64 x),hg,hr0⟩
theorem aZw {W:World} {g:Nat} {A0:Option Addr} {c0:Nat} {f0:List Int} {f1:Int} {f2:Int} {f3:Int} (h:W.heap[g]?=some (.cells #[.slice A0 f0.length c0,.int .i64 f1,.int .i64 f2,.int .i64 f3] 136 (0,0))):W.cell? ⟨g,2,none⟩=some (.int .i64 f2):=(aZc h 2).trans rfl
theorem IsS136.set_2 {w0 W:World} {g:Nat} {f0:List Int} {f1:Int} {f2:Int} {f3:Int} (h:IsS136 w0 W g f0 f1 f2 f3) (x:Int):IsS136 w0 (W.setCell ⟨g,2,none⟩ (.int .i64 x)) g f0 f1 x f3:=by
  obtain ⟨A0,c0,hb,hg,hr0⟩:=h
  exact ⟨A0,c0,by simpa using eZK hb 2 (.int .i64 x),hg,hr0⟩
theorem aZv {W:World} {g:Nat} {A0:Option Addr} {c0:Nat} {f0:List Int} {f1:Int} {f2:Int} {f3:Int} (h:W.heap[g]?=some (.cells #[.slice A0 f0.length c0,.int .i64 f1,.int .i64 f2,.int .i64 f3] 136 (0,0))):W.cell? ⟨g,3,none⟩=some (.int .i64 f3):=(aZc h 3).trans rfl
theorem IsS136.set_3 {w0 W:World} {g:Nat} {f0:List Int} {f1:Int} {f2:Int} {f3:Int} (h:IsS136 w0 W g f0 f1 f2 f3) (x:Int):IsS136 w0 (W.setCell ⟨g,3,none⟩ (.int .i64 x)) g f0 f1 f2 x:=by
  obtain ⟨A0,c0,hb,hg,hr0⟩:=h
  exact ⟨A0,c0,by simpa using eZK hb 3 (.int .i64 x),hg,hr0⟩
def berthref20_Reader_fail.f (s0_0:List Int) (s0_1:Int) (s0_2:Int) (s0_3:Int) (a1:Int) (a2:Int):Option (Int × Int × Int):=if s0_2=0 then (some (s0_1,a1,a2)) else (some (s0_1,s0_2,s0_3))
theorem berthref20_Reader_fail.calls (g:Nat) (s0_0:List Int) (s0_1:Int) (s0_2:Int) (s0_3:Int) (a1:Int) (a2:Int) (r1:Int) (r2:Int) (r3:Int) (w0 w:World) (hI:IsS136 w0 w g s0_0 s0_1 s0_2 s0_3) (hB:Below w0.heap.size w0 w) (h:berthref20_Reader_fail.f s0_0 s0_1 s0_2 s0_3 a1 a2=some (r1,r2,r3)) :
 Calls Try.prog 66 #[.pointer (some ⟨g,0,none⟩),.int .i64 a1,.int .i64 a2] w fun e w'=>e=.returned (.tuple #[])∧IsS136 w0 w' g s0_0 r1 r2 r3∧Below w0.heap.size w0 w'∧KeepBut w w' g none:=by
 have HI0:=Aside0.mk hI
 have HK:=Aside0.mk (KeepBut.refl w g none)
 have HL:=Aside0.mk hB.size
 clear hI
 have HW0:=Aside0.mk hB.size
 have HB:=Aside0.mk hB
 clear hB
 have H:(if s0_2=0 then (some (s0_1,a1,a2)) else (some (s0_1,s0_2,s0_3)))=some (r1,r2,r3):=h
 clear h
 by_cases c4:s0_2=0
 ·
  rw [if_pos c4] at H
  have c4b0:(s0_2 == 0)=true:=beq_iff_eq.mpr c4
  have c4b1:(s0_2 != 0)=false:=bne_eq_false_iff_eq.mpr c4
  clear c4
  simp only [Option.some.injEq,Prod.mk.injEq] at H
  obtain ⟨rfl,rfl,rfl⟩:=H
  obtain ⟨ASz5_0,cSz5_0,HGz5,hgz5,HSz5_0⟩:=HI0.out.old
  have hcz5_0:=aZy HGz5
  have hcz5_1:=aZx HGz5
  have hcz5_2:=aZw HGz5
  have hcz5_3:=aZv HGz5
  have hfz5_1:=aZe HGz5 1
  have hfz5_2:=aZe HGz5 2
  have hfz5_3:=aZe HGz5 3
  clear HGz5 hgz5
  go_enter Try.func66,Try.ntmps66
  go_wp2
  go_end0
  exact ⟨by rfl,by repeat ((with_reducible first|exact HI0.out|apply IsS136.set_2|apply IsS136.set_3)),by repeat ((with_reducible first|exact HB.out|refine aZi ?_ (IsS136.ge HI0.out))),by repeat ((with_reducible first|exact HK.out|apply KeepBut.set_))⟩
 ·
  rw [if_neg c4] at H
  have c4b0:(s0_2 == 0)=false:=beq_eq_false_iff_ne.mpr c4
  have c4b1:(s0_2 != 0)=true:=bne_iff_ne.mpr c4
  simp only [Option.some.injEq,Prod.mk.injEq] at H
  obtain ⟨rfl,rfl,rfl⟩:=H
  obtain ⟨ASz6_0,cSz6_0,HGz6,hgz6,HSz6_0⟩:=HI0.out.old
  have hcz6_0:=aZy HGz6
  have hcz6_1:=aZx HGz6
  have hcz6_2:=aZw HGz6
  have hcz6_3:=aZv HGz6
  have hfz6_1:=aZe HGz6 1
  have hfz6_2:=aZe HGz6 2
  have hfz6_3:=aZe HGz6 3
  clear HGz6 hgz6
  go_enter Try.func66,Try.ntmps66
  go_wp2
  go_end0
  exact ⟨by rfl,by repeat ((with_reducible exact HI0.out)),by repeat ((with_reducible exact HB.out)),by repeat ((with_reducible exact HK.out))⟩
def berthref20_Reader_head.l0:Nat→List Int→Int→List Int→Int→Int→Int→Option (Int × Int × Int)
  | 0,_,_,_,_,_,_=>none
  | k+1,x2,x3,x1000,x1001,x1002,x1003=>if x3<4 then (if x3≥(x1000.length:Int) then ((berthref20_Reader_fail.f x1000 x1001 x1002 x1003 201 x3).bind fun bt288=>(some (bt288.1,bt288.2.1,bt288.2.2))) else (if 0≤x3 then (if x3<(x1000.length:Int) then (if x3<(x2.length:Int) then (if (rd x1000 x3)=(rd x2 x3) then (berthref20_Reader_head.l0 k x2 (wrap64 (x3+1)) x1000 x1001 x1002 x1003) else ((berthref20_Reader_fail.f x1000 x1001 x1002 x1003 200 x3).bind fun bt293=>(some (bt293.1,bt293.2.1,bt293.2.2)))) else (none)) else (none)) else (none))) else (some (4,x1002,x1003))
def berthref20_Reader_head.f (k:Nat) (s0_0:List Int) (s0_1:Int) (s0_2:Int) (s0_3:Int):Option (Int × Int × Int):=berthref20_Reader_head.l0 k (([66,82,84,1]:List Int)) 0 s0_0 s0_1 s0_2 s0_3
theorem berthref20_Reader_head.calls (k:Nat) (g:Nat) (s0_0:List Int) (s0_1:Int) (s0_2:Int) (s0_3:Int) (r1:Int) (r2:Int) (r3:Int) (w0 w:World) (hI:IsS136 w0 w g s0_0 s0_1 s0_2 s0_3) (hB:Below w0.heap.size w0 w) (h:berthref20_Reader_head.f k s0_0 s0_1 s0_2 s0_3=some (r1,r2,r3)) :
 Calls Try.prog 60 #[.pointer (some ⟨g,0,none⟩)] w fun e w'=>e=.returned (.tuple #[])∧IsS136 w0 w' g s0_0 r1 r2 r3∧Below w0.heap.size w0 w'∧KeepBut w w' g none:=by
 have HI0:=Aside0.mk hI
 have HK:=Aside0.mk (KeepBut.refl w g none)
 have HL:=Aside0.mk hB.size
 clear hI
 have HW0:=Aside0.mk hB.size
 have HB:=Aside0.mk hB
 clear hB
 have H:(berthref20_Reader_head.l0 k (([66,82,84,1]:List Int)) 0 s0_0 s0_1 s0_2 s0_3)=some (r1,r2,r3):=h
 clear h
 obtain ⟨y285,hy285⟩:∃ y_:List Int,y_=(([66,82,84,1]:List Int)):=⟨_,rfl⟩
 replace H:(berthref20_Reader_head.l0 k y285 0 s0_0 s0_1 s0_2 s0_3)=some (r1,r2,r3):=by (rw [hy285];with_reducible exact H)
 have Ny285:=Aside0.mk hy285
 clear hy285
 have H':=Aside0.mk H
 clear H
 go_enter Try.func60,Try.ntmps60
 go_wp2_with (((with_reducible refine aZ2 (N:=4) rfl ?_);refine Kd.R_lit (Kd.int .u8) _ 5 ?hg (N:=4) ?hd (xs:=([66,82,84,1]:List Int)) (inner:=[.int .u8 66,.int .u8 82,.int .u8 84,.int .u8 1]) (ok:=fun _=>True) (okp:=fun _=>True) ?hr ?hp (fun _ hk=>hk) trivial (Below.refl _ _) (Nat.le_refl _) (by simp) ?_;(case hd=>rfl);(case hg=>rfl);(case hr=>(go_simp;done));(case hp=>exact (Reps.one (show Kd.M (Kd.int .u8) _ _ _ 66 [.int .u8 66] from rfl) (Reps.one (show Kd.M (Kd.int .u8) _ _ _ 82 [.int .u8 82] from rfl) (Reps.one (show Kd.M (Kd.int .u8) _ _ _ 84 [.int .u8 84] from rfl) (Reps.one (show Kd.M (Kd.int .u8) _ _ _ 1 [.int .u8 1] from rfl) (Reps.none _ _))))));intro v286 w2 ho3 hb hg_ hnew_;clear hg_ hnew_;(rw [←Ny285.out] at ho3);have n0_:=Aside0.mk (Kd.R_lower ho3 (bZZ (w:=w) (g:=g) (row:=none) (by repeat ((with_reducible exact HK.out)))));have n1_:=Aside0.mk (IsS136.below (by repeat ((with_reducible exact HI0.out))) hb);have n2_:=Aside0.mk (KeepBut.trans (by repeat ((with_reducible exact HK.out))) (KeepBut.of_below hb g none) (.inl rfl));have n3_:=Aside0.mk (aZ8 (by repeat ((with_reducible exact HB.out))) hb);clear HI0;clear HK;clear HB;have HO287:=n0_;have HI0:=n1_;have HK:=n2_;have HB:=n3_;clear n0_ n1_ n2_ n3_;clear hb ho3))
 repeat (go_quiet (first|((with_reducible refine aZ2 (N:=4) rfl ?_);refine Kd.R_lit (Kd.int .u8) _ 5 ?hg (N:=4) ?hd (xs:=([66,82,84,1]:List Int)) (inner:=[.int .u8 66,.int .u8 82,.int .u8 84,.int .u8 1]) (ok:=fun _=>True) (okp:=fun _=>True) ?hr ?hp (fun _ hk=>hk) trivial (Below.refl _ _) (Nat.le_refl _) (by simp) ?_;(case hd=>rfl);(case hg=>rfl);(case hr=>first|(go_simp;done)|(go_simp;rfl));(case hp=>exact (Reps.one (show Kd.M (Kd.int .u8) _ _ _ 66 [.int .u8 66] from rfl) (Reps.one (show Kd.M (Kd.int .u8) _ _ _ 82 [.int .u8 82] from rfl) (Reps.one (show Kd.M (Kd.int .u8) _ _ _ 84 [.int .u8 84] from rfl) (Reps.one (show Kd.M (Kd.int .u8) _ _ _ 1 [.int .u8 1] from rfl) (Reps.none _ _))))));intro v286 w2 ho3 hb hg_ hnew_;clear hg_ hnew_;(first|rw [←Ny285.out] at ho3|(simp only [Int.reduceToNat] at ho3;rw [←Ny285.out] at ho3));have n0_:=Aside0.mk (Kd.R_lower ho3 (bZZ (w:=w) (g:=g) (row:=none) (by repeat (first|(with_reducible first|exact HK.out|apply KeepBut.set_|apply aZs|apply keep_drew|apply keep_alloc)|exact HK.out))));have n1_:=Aside0.mk (IsS136.below (by repeat (first|(with_reducible first|exact HI0.out|apply IsS136.alloc|apply IsS136.drewN|apply IsS136.drew|apply IsS136.set_1|apply IsS136.set_2|apply IsS136.set_3)|exact HI0.out)) hb);have n2_:=Aside0.mk (KeepBut.trans (by repeat (first|(with_reducible first|exact HK.out|apply KeepBut.set_|apply aZs|apply keep_drew|apply keep_alloc)|exact HK.out)) (KeepBut.of_below hb g none) (.inl rfl));have n3_:=Aside0.mk (aZ8 (by repeat (first|(with_reducible first|exact HB.out|apply aZb|apply aZa|apply below_drew1|refine aZi ?_ (IsS136.ge HI0.out))|exact HB.out)) hb);clear HI0;clear HK;clear HB;have HO287:=n0_;have HI0:=n1_;have HK:=n2_;have HB:=n3_;clear n0_ n1_ n2_ n3_;clear hb ho3));try go_wp2_with (first|((with_reducible refine aZ2 (N:=4) rfl ?_);refine Kd.R_lit (Kd.int .u8) _ 5 ?hg (N:=4) ?hd (xs:=([66,82,84,1]:List Int)) (inner:=[.int .u8 66,.int .u8 82,.int .u8 84,.int .u8 1]) (ok:=fun _=>True) (okp:=fun _=>True) ?hr ?hp (fun _ hk=>hk) trivial (Below.refl _ _) (Nat.le_refl _) (by simp) ?_;(case hd=>rfl);(case hg=>rfl);(case hr=>first|(go_simp;done)|(go_simp;rfl));(case hp=>exact (Reps.one (show Kd.M (Kd.int .u8) _ _ _ 66 [.int .u8 66] from rfl) (Reps.one (show Kd.M (Kd.int .u8) _ _ _ 82 [.int .u8 82] from rfl) (Reps.one (show Kd.M (Kd.int .u8) _ _ _ 84 [.int .u8 84] from rfl) (Reps.one (show Kd.M (Kd.int .u8) _ _ _ 1 [.int .u8 1] from rfl) (Reps.none _ _))))));intro v286 w2 ho3 hb hg_ hnew_;clear hg_ hnew_;(first|rw [←Ny285.out] at ho3|(simp only [Int.reduceToNat] at ho3;rw [←Ny285.out] at ho3));have n0_:=Aside0.mk (Kd.R_lower ho3 (bZZ (w:=w) (g:=g) (row:=none) (by repeat (first|(with_reducible first|exact HK.out|apply KeepBut.set_|apply aZs|apply keep_drew|apply keep_alloc)|exact HK.out))));have n1_:=Aside0.mk (IsS136.below (by repeat (first|(with_reducible first|exact HI0.out|apply IsS136.alloc|apply IsS136.drewN|apply IsS136.drew|apply IsS136.set_1|apply IsS136.set_2|apply IsS136.set_3)|exact HI0.out)) hb);have n2_:=Aside0.mk (KeepBut.trans (by repeat (first|(with_reducible first|exact HK.out|apply KeepBut.set_|apply aZs|apply keep_drew|apply keep_alloc)|exact HK.out)) (KeepBut.of_below hb g none) (.inl rfl));have n3_:=Aside0.mk (aZ8 (by repeat (first|(with_reducible first|exact HB.out|apply aZb|apply aZa|apply below_drew1|refine aZi ?_ (IsS136.ge HI0.out))|exact HB.out)) hb);clear HI0;clear HK;clear HB;have HO287:=n0_;have HI0:=n1_;have HK:=n2_;have HB:=n3_;clear n0_ n1_ n2_ n3_;clear hb ho3)))
 go_loopg [3] k (fun kq v3 w'=>∃ (x3_1:Int) (x1001_1:Int) (x1002_1:Int) (x1003_1:Int),v3=.int .i64 x3_1∧Aside0 (berthref20_Reader_head.l0 kq y285 x3_1 s0_0 x1001_1 x1002_1 x1003_1=some (r1,r2,r3))∧Aside0 (kq≤k)∧Aside0 (Kd.R (Kd.int .u8) 5 w' w.heap.size (fun _=>True) v286 y285)∧Aside0 (IsS136 w0 w' g s0_0 x1001_1 x1002_1 x1003_1)∧Aside0 (KeepBut w w' g none)∧Aside0 (Below w0.heap.size w0 w'))
 case atStart=>exact ⟨(0),(s0_1),(s0_2),(s0_3),(by rfl),H',⟨Nat.le_refl _⟩,⟨by (with_reducible repeat (fail));exact HO287.out⟩,⟨by repeat ((with_reducible exact HI0.out))⟩,⟨by repeat ((with_reducible exact HK.out))⟩,⟨by repeat ((with_reducible exact HB.out))⟩⟩
 case round =>
  clear H'
  try clear p2
  obtain ⟨x3_1,x1001_1,x1002_1,x1003_1,rfl,HA,HK1,HO_2,HI0,HK,HB⟩:=hrel
  cases gk with
  | zero=>exact absurd HA.out (by simp [berthref20_Reader_head.l0])
  | succ k1 =>
   have H:=HA.out
   clear HA
   simp only [berthref20_Reader_head.l0] at H
   by_cases c4:x3_1<4
   ·
    rw [if_pos c4] at H
    have c4b0:decide (x3_1<4)=true:=decide_eq_true c4
    clear c4
    by_cases c5:x3_1≥(s0_0.length:Int)
    ·
     rw [if_pos c5] at H
     have c5b0:decide ((s0_0.length:Int)≤x3_1)=true:=decide_eq_true c5
     clear c5
     replace H:=Option.bind_eq_some_iff.mp H
     obtain ⟨⟨t288,t289,t290⟩,A60,H⟩:=H
     replace H:(some (t288,t289,t290))=some (r1,r2,r3):=H
     have A6:=Aside0.mk A60
     clear A60
     simp only [Option.some.injEq,Prod.mk.injEq] at H
     obtain ⟨rfl,rfl,rfl⟩:=H
     obtain ⟨ASz7_0,cSz7_0,HGz7,hgz7,HSz7_0⟩:=HI0.out.old
     have hcz7_0:=aZy HGz7
     have hcz7_1:=aZx HGz7
     have hcz7_2:=aZw HGz7
     have hcz7_3:=aZv HGz7
     have hfz7_1:=aZe HGz7 1
     have hfz7_2:=aZe HGz7 2
     have hfz7_3:=aZe HGz7 3
     clear HGz7 hgz7
     go_wp2_with ((go_at_call 66;(with_reducible refine (berthref20_Reader_fail.calls g s0_0 x1001_1 x1002_1 x1003_1 201 x3_1 t288 t289 t290 w0 _ ?side1 ?side2 A6.out).mono ?_);(case side1=>repeat ((with_reducible exact HI0.out)));(case side2=>repeat ((with_reducible exact HB.out)));rintro e w8 ⟨rfl,hi,hb,hk⟩;have n0_:=Aside0.mk (Kd.R_mono (Kd.R_keep (IsS136.apart (show IsS136 w0 _ g s0_0 x1001_1 x1002_1 x1003_1 from by repeat ((with_reducible exact HI0.out))) (by (with_reducible repeat (fail));exact HO_2.out) (by decide)) hk (fun _ h=>h.2)) (fun _ h=>h.1));have n1_:=Aside0.mk (KeepBut.trans (by repeat ((with_reducible exact HK.out))) hk (.inl rfl));have n2_:=Aside0.mk (hb);have n3_:=Aside0.mk (hi);clear HO_2;clear HK;clear HB;clear HI0;have HO_2:=n0_;have HK:=n1_;have HB:=n2_;have HI0:=n3_;clear n0_ n1_ n2_ n3_;(try clear hb);(try clear hb2);(try clear hk);(try clear hi)))
     repeat (go_quiet (first|(go_at_call 66;(with_reducible refine (berthref20_Reader_fail.calls g s0_0 x1001_1 x1002_1 x1003_1 201 x3_1 t288 t289 t290 w0 _ ?side1 ?side2 A6.out).mono ?_);(case side1=>repeat (first|(with_reducible first|exact HI0.out|apply IsS136.alloc|apply IsS136.drewN|apply IsS136.drew|apply IsS136.set_1|apply IsS136.set_2|apply IsS136.set_3)|exact HI0.out));(case side2=>repeat (first|(with_reducible first|exact HB.out|apply aZb|apply aZa|apply below_drew1|refine aZi ?_ (IsS136.ge HI0.out))|exact HB.out));rintro e w8 ⟨rfl,hi,hb,hk⟩;have n0_:=Aside0.mk (Kd.R_mono (Kd.R_keep (IsS136.apart (show IsS136 w0 _ g s0_0 x1001_1 x1002_1 x1003_1 from by repeat (first|(with_reducible first|exact HI0.out|apply IsS136.alloc|apply IsS136.drewN|apply IsS136.drew|apply IsS136.set_1|apply IsS136.set_2|apply IsS136.set_3)|exact HI0.out)) (by (with_reducible repeat (first|apply Kd.R_alloc|apply Kd.R_drewN|apply Kd.R_drew));exact HO_2.out) (by decide)) hk (fun _ h=>h.2)) (fun _ h=>h.1));have n1_:=Aside0.mk (KeepBut.trans (by repeat (first|(with_reducible first|exact HK.out|apply KeepBut.set_|apply aZs|apply keep_drew|apply keep_alloc)|exact HK.out)) hk (.inl rfl));have n2_:=Aside0.mk (hb);have n3_:=Aside0.mk (hi);clear HO_2;clear HK;clear HB;clear HI0;have HO_2:=n0_;have HK:=n1_;have HB:=n2_;have HI0:=n3_;clear n0_ n1_ n2_ n3_;(try clear hb);(try clear hb2);(try clear hk);(try clear hi)));try go_wp2_with (first|(go_at_call 66;(with_reducible refine (berthref20_Reader_fail.calls g s0_0 x1001_1 x1002_1 x1003_1 201 x3_1 t288 t289 t290 w0 _ ?side1 ?side2 A6.out).mono ?_);(case side1=>repeat (first|(with_reducible first|exact HI0.out|apply IsS136.alloc|apply IsS136.drewN|apply IsS136.drew|apply IsS136.set_1|apply IsS136.set_2|apply IsS136.set_3)|exact HI0.out));(case side2=>repeat (first|(with_reducible first|exact HB.out|apply aZb|apply aZa|apply below_drew1|refine aZi ?_ (IsS136.ge HI0.out))|exact HB.out));rintro e w8 ⟨rfl,hi,hb,hk⟩;have n0_:=Aside0.mk (Kd.R_mono (Kd.R_keep (IsS136.apart (show IsS136 w0 _ g s0_0 x1001_1 x1002_1 x1003_1 from by repeat (first|(with_reducible first|exact HI0.out|apply IsS136.alloc|apply IsS136.drewN|apply IsS136.drew|apply IsS136.set_1|apply IsS136.set_2|apply IsS136.set_3)|exact HI0.out)) (by (with_reducible repeat (first|apply Kd.R_alloc|apply Kd.R_drewN|apply Kd.R_drew));exact HO_2.out) (by decide)) hk (fun _ h=>h.2)) (fun _ h=>h.1));have n1_:=Aside0.mk (KeepBut.trans (by repeat (first|(with_reducible first|exact HK.out|apply KeepBut.set_|apply aZs|apply keep_drew|apply keep_alloc)|exact HK.out)) hk (.inl rfl));have n2_:=Aside0.mk (hb);have n3_:=Aside0.mk (hi);clear HO_2;clear HK;clear HB;clear HI0;have HO_2:=n0_;have HK:=n1_;have HB:=n2_;have HI0:=n3_;clear n0_ n1_ n2_ n3_;(try clear hb);(try clear hb2);(try clear hk);(try clear hi))))
     ((try simp only [Exit.inBlock,Exit.then]);refine bodyPost_ret (results_none rfl _ _ _) rfl ?_)
     exact ⟨by rfl,by repeat ((with_reducible exact HI0.out)),by repeat ((with_reducible exact HB.out)),by repeat ((with_reducible exact HK.out))⟩
    ·
     rw [if_neg c5] at H
     have c5b0:decide ((s0_0.length:Int)≤x3_1)=false:=decide_eq_false c5
     clear c5
     by_cases c9:0≤x3_1
     ·
      rw [if_pos c9] at H
      have c9b0:decide (0≤x3_1)=true:=decide_eq_true c9
      clear c9
      by_cases c10:x3_1<(s0_0.length:Int)
      ·
       rw [if_pos c10] at H
       have c10b0:decide (x3_1<(s0_0.length:Int))=true:=decide_eq_true c10
       clear c10
       by_cases c11:x3_1<(y285.length:Int)
       ·
        rw [if_pos c11] at H
        have c11b0:decide (x3_1<(y285.length:Int))=true:=decide_eq_true c11
        clear c11
        by_cases c12:(rd s0_0 x3_1)=(rd y285 x3_1)
        ·
         rw [if_pos c12] at H
         have c12b0:((rd s0_0 x3_1) == (rd y285 x3_1))=true:=beq_iff_eq.mpr c12
         have c12b1:((rd s0_0 x3_1) != (rd y285 x3_1))=false:=bne_eq_false_iff_eq.mpr c12
         clear c12
         have H':=Aside0.mk H
         clear H
         obtain ⟨ASz13_0,cSz13_0,HGz13,hgz13,HSz13_0⟩:=HI0.out.old
         have hcz13_0:=aZy HGz13
         have hcz13_1:=aZx HGz13
         have hcz13_2:=aZw HGz13
         have hcz13_3:=aZv HGz13
         have hfz13_1:=aZe HGz13 1
         have hfz13_2:=aZe HGz13 2
         have hfz13_3:=aZe HGz13 3
         clear HGz13 hgz13
         have p291:0≤(x3_1:Int):=of_decide_eq_true (by (with_reducible assumption))
         have q291:x3_1<(s0_0.length:Int):=of_decide_eq_true (by (with_reducible assumption))
         obtain ⟨ad291,e291,hx291_0⟩:=Kd.at_int HSz13_0 x3_1 p291 q291
         cases e291
         replace hx291_0:=aZA HB.out hx291_0
         replace p291:=eq_true p291
         replace q291:=eq_true q291
         obtain ⟨Ao14,co14,eo14⟩:=Kd.R_slice HO_2.out
         subst eo14
         have p292:0≤(x3_1:Int):=of_decide_eq_true (by (with_reducible assumption))
         have q292:x3_1<(y285.length:Int):=of_decide_eq_true (by (with_reducible assumption))
         obtain ⟨ad292,e292,hx292_0⟩:=Kd.at_int (Kd.R_reads' HO_2.out).2.2 x3_1 p292 q292
         cases e292
         replace p292:=eq_true p292
         replace q292:=eq_true q292
         go_wp2
         repeat (go_quiet (fail);try go_wp2)
         go_roundg k1
         case measure=>have:=HK1.out;omega
         case rel=>exact ⟨(wrap64 (x3_1+1)),(x1001_1),(x1002_1),(x1003_1),(by rfl),H',⟨by have:=HK1.out;omega⟩,⟨by (with_reducible repeat (apply Kd.R_drewN));exact HO_2.out⟩,⟨by repeat ((with_reducible first|exact HI0.out|apply IsS136.drewN))⟩,⟨by repeat ((with_reducible first|exact HK.out|apply aZs))⟩,⟨by repeat ((with_reducible first|exact HB.out|apply aZa))⟩⟩
        ·
         rw [if_neg c12] at H
         have c12b0:((rd s0_0 x3_1) == (rd y285 x3_1))=false:=beq_eq_false_iff_ne.mpr c12
         have c12b1:((rd s0_0 x3_1) != (rd y285 x3_1))=true:=bne_iff_ne.mpr c12
         replace H:=Option.bind_eq_some_iff.mp H
         obtain ⟨⟨t293,t294,t295⟩,A150,H⟩:=H
         replace H:(some (t293,t294,t295))=some (r1,r2,r3):=H
         have A15:=Aside0.mk A150
         clear A150
         simp only [Option.some.injEq,Prod.mk.injEq] at H
         obtain ⟨rfl,rfl,rfl⟩:=H
         obtain ⟨ASz16_0,cSz16_0,HGz16,hgz16,HSz16_0⟩:=HI0.out.old
         have hcz16_0:=aZy HGz16
         have hcz16_1:=aZx HGz16
         have hcz16_2:=aZw HGz16
         have hcz16_3:=aZv HGz16
         have hfz16_1:=aZe HGz16 1
         have hfz16_2:=aZe HGz16 2
         have hfz16_3:=aZe HGz16 3
         clear HGz16 hgz16
         have p291:0≤(x3_1:Int):=of_decide_eq_true (by (with_reducible assumption))
         have q291:x3_1<(s0_0.length:Int):=of_decide_eq_true (by (with_reducible assumption))
         obtain ⟨ad291,e291,hx291_0⟩:=Kd.at_int HSz16_0 x3_1 p291 q291
         cases e291
         replace hx291_0:=aZA HB.out hx291_0
         replace p291:=eq_true p291
         replace q291:=eq_true q291
         obtain ⟨Ao17,co17,eo17⟩:=Kd.R_slice HO_2.out
         subst eo17
         have p292:0≤(x3_1:Int):=of_decide_eq_true (by (with_reducible assumption))
         have q292:x3_1<(y285.length:Int):=of_decide_eq_true (by (with_reducible assumption))
         obtain ⟨ad292,e292,hx292_0⟩:=Kd.at_int (Kd.R_reads' HO_2.out).2.2 x3_1 p292 q292
         cases e292
         replace p292:=eq_true p292
         replace q292:=eq_true q292
         go_wp2_with (fail)
         repeat (go_quiet (first|(go_at_call 66;(with_reducible refine (berthref20_Reader_fail.calls g s0_0 x1001_1 x1002_1 x1003_1 200 x3_1 t293 t294 t295 w0 _ ?side1 ?side2 A15.out).mono ?_);(case side1=>repeat (first|(with_reducible first|exact HI0.out|apply IsS136.alloc|apply IsS136.drewN|apply IsS136.drew|apply IsS136.set_1|apply IsS136.set_2|apply IsS136.set_3)|exact HI0.out));(case side2=>repeat (first|(with_reducible first|exact HB.out|apply aZb|apply aZa|apply below_drew1|refine aZi ?_ (IsS136.ge HI0.out))|exact HB.out));rintro e w18 ⟨rfl,hi,hb,hk⟩;have n0_:=Aside0.mk (Kd.R_mono (Kd.R_keep (IsS136.apart (show IsS136 w0 _ g s0_0 x1001_1 x1002_1 x1003_1 from by repeat (first|(with_reducible first|exact HI0.out|apply IsS136.alloc|apply IsS136.drewN|apply IsS136.drew|apply IsS136.set_1|apply IsS136.set_2|apply IsS136.set_3)|exact HI0.out)) (by (with_reducible repeat (first|apply Kd.R_alloc|apply Kd.R_drewN|apply Kd.R_drew));exact HO_2.out) (by decide)) hk (fun _ h=>h.2)) (fun _ h=>h.1));have n1_:=Aside0.mk (KeepBut.trans (by repeat (first|(with_reducible first|exact HK.out|apply KeepBut.set_|apply aZs|apply keep_drew|apply keep_alloc)|exact HK.out)) hk (.inl rfl));have n2_:=Aside0.mk (hb);have n3_:=Aside0.mk (hi);clear HO_2;clear HK;clear HB;clear HI0;have HO_2:=n0_;have HK:=n1_;have HB:=n2_;have HI0:=n3_;clear n0_ n1_ n2_ n3_;(try clear hb);(try clear hb2);(try clear hk);(try clear hi)));try go_wp2_with ((go_at_call 66;(with_reducible refine (berthref20_Reader_fail.calls g s0_0 x1001_1 x1002_1 x1003_1 200 x3_1 t293 t294 t295 w0 _ ?side1 ?side2 A15.out).mono ?_);(case side1=>repeat ((with_reducible first|exact HI0.out|apply IsS136.drewN)));(case side2=>repeat ((with_reducible first|exact HB.out|apply aZa)));rintro e w18 ⟨rfl,hi,hb,hk⟩;have n0_:=Aside0.mk (Kd.R_mono (Kd.R_keep (IsS136.apart (show IsS136 w0 _ g s0_0 x1001_1 x1002_1 x1003_1 from by repeat ((with_reducible first|exact HI0.out|apply IsS136.drewN))) (by (with_reducible repeat (apply Kd.R_drewN));exact HO_2.out) (by decide)) hk (fun _ h=>h.2)) (fun _ h=>h.1));have n1_:=Aside0.mk (KeepBut.trans (by repeat ((with_reducible first|exact HK.out|apply aZs))) hk (.inl rfl));have n2_:=Aside0.mk (hb);have n3_:=Aside0.mk (hi);clear HO_2;clear HK;clear HB;clear HI0;have HO_2:=n0_;have HK:=n1_;have HB:=n2_;have HI0:=n3_;clear n0_ n1_ n2_ n3_;(try clear hb);(try clear hb2);(try clear hk);(try clear hi))))
         ((try simp only [Exit.inBlock,Exit.then]);refine bodyPost_ret (results_none rfl _ _ _) rfl ?_)
         exact ⟨by rfl,by repeat ((with_reducible exact HI0.out)),by repeat ((with_reducible exact HB.out)),by repeat ((with_reducible exact HK.out))⟩
       ·
        rw [if_neg c11] at H
        exact absurd H (by simp)
      ·
       rw [if_neg c10] at H
       exact absurd H (by simp)
     ·
      rw [if_neg c9] at H
      exact absurd H (by simp)
   ·
    rw [if_neg c4] at H
    have c4b0:decide (x3_1<4)=false:=decide_eq_false c4
    clear c4
    simp only [Option.some.injEq,Prod.mk.injEq] at H
    obtain ⟨rfl,rfl,rfl⟩:=H
    obtain ⟨ASz19_0,cSz19_0,HGz19,hgz19,HSz19_0⟩:=HI0.out.old
    have hcz19_0:=aZy HGz19
    have hcz19_1:=aZx HGz19
    have hcz19_2:=aZw HGz19
    have hcz19_3:=aZv HGz19
    have hfz19_1:=aZe HGz19 1
    have hfz19_2:=aZe HGz19 2
    have hfz19_3:=aZe HGz19 3
    clear HGz19 hgz19
    go_wp2
    repeat (go_quiet (fail);try go_wp2)
    go_end0
    exact ⟨by rfl,by repeat ((with_reducible first|exact HI0.out|apply IsS136.set_1)),by repeat ((with_reducible first|exact HB.out|refine aZi ?_ (IsS136.ge HI0.out))),by repeat ((with_reducible first|exact HK.out|apply KeepBut.set_))⟩
end Go.Proofs.Ytbnplhmmbnmagaa.All
