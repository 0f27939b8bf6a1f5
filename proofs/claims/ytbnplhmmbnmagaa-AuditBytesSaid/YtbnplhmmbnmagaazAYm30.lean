/- wakes. -/
import Derived.Test.YtbnplhmmbnmagaazAYm17
import Derived.Test.YtbnplhmmbnmagaazAYm29
import Derived.Test.YtbnplhmmbnmagaazAYm24
import Derived.DeepKeys
import Derived.Test.YtbnplhmmbnmagaazAYm22
import Derived.Test.YtbnplhmmbnmagaazAYm21
import Derived.Test.YtbnplhmmbnmagaazAYm8
set_option maxHeartbeats 4000000
set_option maxRecDepth 100000
set_option linter.unusedVariables false
set_option linter.unusedSimpArgs false
namespace Go.Proofs.Ytbnplhmmbnmagaa.D
open Go.RowKit Go.Proofs.YtbnplhmmbnmagaaW.PrintWords Go.Proofs.YtbnplhmmbnmagaaW.PrintLast Go.Proofs.YtbnplhmmbnmagaaW.PrintMore Go.Proofs.Ytbnplhmmbnmagaa.All
def goodP:Pg:=⟨[],[],[],[],goodC,1,0⟩
def goodB:List Int:=[66,82,84,1,1,0,0,0,0,0,2,2,0,36]
theorem goodP_formed:cZg goodP=true:=by decide
theorem goodP_enc:encP goodP=goodB:=by decide
theorem goodB_dec:aZG goodB=.ok (goodP,(goodB.length:Int)):=by rw [←goodP_enc];exact program_rt goodP goodP_formed
theorem goodB_good:Good goodB:=by rw [←goodP_enc];exact encP_good goodP goodP_formed
theorem good_bytes:aZ7 goodB=.ok (goodP,1):=cZ4 goodB_dec (by unfold bZa;exact good_audit)
theorem C66_2 (W:World) (g t:Nat) (x y:S66) (h:W.heap[g]?=some (.cells #[.int .i64 x.f0,.int .i64 x.f1,.int .i64 x.f2,.int .i64 x.f3,.int .i64 y.f0,.int .i64 y.f1,.int .i64 y.f2,.int .i64 y.f3] t (0,0))):Kd.C k66 W (some ⟨g,0,none⟩) 2 [x,y]:=by
 refine ⟨rfl,by decide,fun _=>⟨⟨g,0,none⟩,rfl,fun j p hj=>?_⟩⟩
 rcases j with _ | _|j
 ·
  obtain rfl:x=p:=by simpa using hj
  refine ⟨_,rfl,eZ9 _ _,fun i u hu=>?_⟩
  rcases i with _ | _ | _ | _|i <;> simp_all [World.cell?,Addr.add,k66,Kd.iso,Kd.pair,Kd.int,Kd.scalar]
 ·
  obtain rfl:y=p:=by simpa using hj
  refine ⟨_,rfl,eZ9 _ _,fun i u hu=>?_⟩
  rcases i with _ | _ | _ | _|i <;> simp_all [World.cell?,Addr.add,k66,Kd.iso,Kd.pair,Kd.int,Kd.scalar]
 · simp at hj
theorem C66_4 (W:World) (g t:Nat) (x y z u:S66) (h:W.heap[g]?=some (.cells #[.int .i64 x.f0,.int .i64 x.f1,.int .i64 x.f2,.int .i64 x.f3,.int .i64 y.f0,.int .i64 y.f1,.int .i64 y.f2,.int .i64 y.f3,.int .i64 z.f0,.int .i64 z.f1,.int .i64 z.f2,.int .i64 z.f3,.int .i64 u.f0,.int .i64 u.f1,.int .i64 u.f2,.int .i64 u.f3] t (0,0))):Kd.C k66 W (some ⟨g,0,none⟩) 4 [x,y,z,u]:=by
 refine ⟨rfl,by decide,fun _=>⟨⟨g,0,none⟩,rfl,fun j p hj=>?_⟩⟩
 rcases j with _ | _ | _ | _|j
 ·
  obtain rfl:x=p:=by simpa using hj
  refine ⟨_,rfl,eZ9 _ _,fun i u hu=>?_⟩
  rcases i with _ | _ | _ | _|i <;> simp_all [World.cell?,Addr.add,k66,Kd.iso,Kd.pair,Kd.int,Kd.scalar]
 ·
  obtain rfl:y=p:=by simpa using hj
  refine ⟨_,rfl,eZ9 _ _,fun i u hu=>?_⟩
  rcases i with _ | _ | _ | _|i <;> simp_all [World.cell?,Addr.add,k66,Kd.iso,Kd.pair,Kd.int,Kd.scalar]
 ·
  obtain rfl:z=p:=by simpa using hj
  refine ⟨_,rfl,eZ9 _ _,fun i u hu=>?_⟩
  rcases i with _ | _ | _ | _|i <;> simp_all [World.cell?,Addr.add,k66,Kd.iso,Kd.pair,Kd.int,Kd.scalar]
 ·
  obtain rfl:u=p:=by simpa using hj
  refine ⟨_,rfl,eZ9 _ _,fun i u hu=>?_⟩
  rcases i with _ | _ | _ | _|i <;> simp_all [World.cell?,Addr.add,k66,Kd.iso,Kd.pair,Kd.int,Kd.scalar]
 · simp at hj
abbrev lnk0:Value:=.agg #[.int .i64 0,.int .i64 0,.int .i64 0,.string ⟨#[]⟩,.int .i64 0,.int .i64 0,.int .i64 0,.string ⟨#[]⟩,.int .i64 0,.int .i64 0,.int .i64 0,.string ⟨#[]⟩,.int .i64 0,.int .i64 0,.int .i64 0,.string ⟨#[]⟩]
theorem eq39 (w:World):(Op.equalIn 9999 39 lnk0 lnk0).run Try.prog w=.ok true w:=by
  have h:=run_equalIn_deep (P:=Try.prog) 9995 4 39 (by kernel_rfl)
  obtain ⟨r,hr,hi⟩:=h w 10 10 lnk0 lnk0 [.int .i64 0,.int .i64 0,.int .i64 0,.string [],.int .i64 0,.int .i64 0,.int .i64 0,.string [],.int .i64 0,.int .i64 0,.int .i64 0,.string [],.int .i64 0,.int .i64 0,.int .i64 0,.string []] _ (by kernel_rfl) (by kernel_rfl) (by kernel_rfl) (by kernel_rfl)
  rw [hi.2 rfl] at hr
  exact hr
theorem cZl {W:World} {X t:Nat} {a b c d e f g:Value} (h:W.heap[X]?=some (.cells #[a,b,c,d,e,f,g] t (0,0))):W.cell? ⟨X,0,none⟩=some a∧W.cell? ⟨X,1,none⟩=some b∧W.cell? ⟨X,2,none⟩=some c∧W.cell? ⟨X,3,none⟩=some d∧W.cell? ⟨X,4,none⟩=some e∧W.cell? ⟨X,5,none⟩=some f∧W.cell? ⟨X,6,none⟩=some g:=by
  simp [World.cell?,h]
theorem cells2 {W:World} {X t:Nat} {a b:Value} (h:W.heap[X]?=some (.cells #[a,b] t (0,0))):W.cell? ⟨X,0,none⟩=some a∧W.cell? ⟨X,1,none⟩=some b:=by
  simp [World.cell?,h]
theorem C_ints {k:IntKind} {W:World} {g t:Nat} {xs:List Int} (h:W.heap[g]?=some (.cells (xs.map (Value.int k)).toArray t (0,0))) (hl:xs.length≤9223372036854775807):Kd.C (Kd.int k) W (some ⟨g,0,none⟩) xs.length xs:=by
 refine ⟨rfl,hl,fun _=>⟨⟨g,0,none⟩,rfl,fun j p hj=>⟨[.int k p],rfl,rfl,fun i u hu=>?_⟩⟩⟩
 rcases i with _|i
 ·
  have hu':Value.int k p=u:=by simpa using hu
  subst hu'
  have hz:(Kd.int k).sz=1:=rfl
  have ha:((⟨g,0,none⟩:Addr).add (j*(Kd.int k).sz+0))=⟨g,j,none⟩:=by rw [hz];unfold Addr.add;split <;> simp_all
  rw [ha]
  simp [World.cell?,h,hj]
 · simp at hu
theorem told_get {w:World} {base:Nat} {ok:Nat→Prop} {tv:Value} (h:told2.R 51 w base ok tv [[],[1]]) :
    ∃ ad c A0 c0 a1 c1,tv=.slice (some ad) 2 c∧w.cell? ad=some (.slice A0 0 c0)∧w.cell? ⟨ad.block,ad.off+1,none⟩=some (.slice (some a1) 1 c1)∧w.cell? a1=some (.int .i64 1)∧2≤c∧1≤c1:=by
  obtain ⟨A,c,rfl,hc,hC⟩:=Kd.R_reads h
  obtain ⟨ad,cs,rfl,-,⟨A0,c0,rfl,-,-⟩,h0⟩:=Kd.C_get hC [] 0 (by decide) (by decide)
  obtain ⟨ad2,cs,he,-,⟨A1,c1,rfl,l1,hC1⟩,h1⟩:=Kd.C_get hC [] 1 (by decide) (by decide)
  injection he with he
  subst he
  obtain ⟨a1,cs,rfl,-,hk,h2⟩:=Kd.C_get hC1 0 0 (by decide) (by decide)
  obtain rfl:cs=[.int .i64 1]:=hk
  have u0:=h0 0 _ rfl
  have u2:=h2 0 _ rfl
  rw [show (0:Int).toNat*told2.sz+0=0 from rfl] at u0
  rw [show (0:Int).toNat*(Kd.int .i64).sz+0=0 from rfl] at u2
  simp only [go_sem] at u0 u2
  exact ⟨ad,c,A0,c0,a1,c1,rfl,u0,h1 0 _ rfl,u2,hc,l1⟩
theorem wakes_any (w:World):Calls Try.prog 10 #[] w fun e w'=>e=.returned (.bool true)∧Below w.heap.size w w':=by
 go_enter Try.func10,Try.ntmps10
 go_upto_region 2 with (fail)
 have c1:Kd.C k66 ((w.alloc (.cells #[.int .i64 2,.int .i64 0,.int .i64 0,.int .i64 0,.int .i64 36,.int .i64 0,.int .i64 0,.int .i64 0] 66)).alloc (.cells #[.slice none 0 0,.slice none 0 0,.slice none 0 0,.slice none 0 0,.slice (some ⟨w.heap.size,0,none⟩) 2 2,.int .i64 1,.int .i64 0] 28)) (some ⟨w.heap.size,0,none⟩) 2 goodC :=
  C66_2 _ _ 66 ⟨2,0,0,0⟩ ⟨36,0,0,0⟩ (by rw [heap_alloc_old _ _ (by simp)];exact heap_alloc_new w _)
 have p1:=heap_alloc_new (w.alloc (.cells #[.int .i64 2,.int .i64 0,.int .i64 0,.int .i64 0,.int .i64 36,.int .i64 0,.int .i64 0,.int .i64 0] 66)) (.cells #[.slice none 0 0,.slice none 0 0,.slice none 0 0,.slice none 0 0,.slice (some ⟨w.heap.size,0,none⟩) 2 2,.int .i64 1,.int .i64 0] 28)
 rw [World.size_alloc] at p1
 have hb:Below w.heap.size w ((w.alloc (.cells #[.int .i64 2,.int .i64 0,.int .i64 0,.int .i64 0,.int .i64 36,.int .i64 0,.int .i64 0,.int .i64 0] 66)).alloc (.cells #[.slice none 0 0,.slice none 0 0,.slice none 0 0,.slice none 0 0,.slice (some ⟨w.heap.size,0,none⟩) 2 2,.int .i64 1,.int .i64 0] 28)):=aZb (aZb (Below.refl _ _) _) _
 have HB:=hid_ hb
 clear hb
 generalize (w.alloc (.cells #[.int .i64 2,.int .i64 0,.int .i64 0,.int .i64 0,.int .i64 36,.int .i64 0,.int .i64 0,.int .i64 0] 66)).alloc (.cells #[.slice none 0 0,.slice none 0 0,.slice none 0 0,.slice none 0 0,.slice (some ⟨w.heap.size,0,none⟩) 2 2,.int .i64 1,.int .i64 0] 28)=W1 at c1 p1 HB ⊢
 generalize w.heap.size+1=X1 at p1 ⊢
 generalize (⟨w.heap.size,0,none⟩:Addr)=A1 at c1 p1 ⊢
 go_upto_region 3 with (fail)
 have bel:=aZb (aZb (Below.refl W1.heap.size W1) (.cells #[.int .i64 2,.int .i64 0,.int .i64 0,.int .i64 0,.int .i64 33,.int .i64 3,.int .i64 0,.int .i64 0,.int .i64 2,.int .i64 0,.int .i64 0,.int .i64 0,.int .i64 36,.int .i64 0,.int .i64 0,.int .i64 0] 66)) (.cells #[.slice none 0 0,.slice none 0 0,.slice none 0 0,.slice none 0 0,.slice (some ⟨W1.heap.size,0,none⟩) 4 4,.int .i64 2,.int .i64 0] 28)
 have c2:Kd.C k66 ((W1.alloc (.cells #[.int .i64 2,.int .i64 0,.int .i64 0,.int .i64 0,.int .i64 33,.int .i64 3,.int .i64 0,.int .i64 0,.int .i64 2,.int .i64 0,.int .i64 0,.int .i64 0,.int .i64 36,.int .i64 0,.int .i64 0,.int .i64 0] 66)).alloc (.cells #[.slice none 0 0,.slice none 0 0,.slice none 0 0,.slice none 0 0,.slice (some ⟨W1.heap.size,0,none⟩) 4 4,.int .i64 2,.int .i64 0] 28)) (some ⟨W1.heap.size,0,none⟩) 4 badC :=
  C66_4 _ _ 66 ⟨2,0,0,0⟩ ⟨33,3,0,0⟩ ⟨2,0,0,0⟩ ⟨36,0,0,0⟩ (by rw [heap_alloc_old _ _ (by simp)];exact heap_alloc_new W1 _)
 have p2:=heap_alloc_new (W1.alloc (.cells #[.int .i64 2,.int .i64 0,.int .i64 0,.int .i64 0,.int .i64 33,.int .i64 3,.int .i64 0,.int .i64 0,.int .i64 2,.int .i64 0,.int .i64 0,.int .i64 0,.int .i64 36,.int .i64 0,.int .i64 0,.int .i64 0] 66)) (.cells #[.slice none 0 0,.slice none 0 0,.slice none 0 0,.slice none 0 0,.slice (some ⟨W1.heap.size,0,none⟩) 4 4,.int .i64 2,.int .i64 0] 28)
 rw [World.size_alloc] at p2
 have q1:=(bel.block _ (aZd p1)).trans p1
 have d1:=Kd.C_below c1 bel
 have HB2:=hid_ (HB.out.trans (bel.mono HB.out.size))
 clear c1 p1 HB bel
 generalize (W1.alloc (.cells #[.int .i64 2,.int .i64 0,.int .i64 0,.int .i64 0,.int .i64 33,.int .i64 3,.int .i64 0,.int .i64 0,.int .i64 2,.int .i64 0,.int .i64 0,.int .i64 0,.int .i64 36,.int .i64 0,.int .i64 0,.int .i64 0] 66)).alloc (.cells #[.slice none 0 0,.slice none 0 0,.slice none 0 0,.slice none 0 0,.slice (some ⟨W1.heap.size,0,none⟩) 4 4,.int .i64 2,.int .i64 0] 28)=W2 at c2 p2 q1 d1 HB2 ⊢
 generalize W1.heap.size+1=X2 at p2 ⊢
 generalize (⟨W1.heap.size,0,none⟩:Addr)=A2 at c2 p2 ⊢
 obtain ⟨x0,x1,x2,x3,x4,x5,x6⟩:=cZl q1
 go_wp2_with (fail)
 clear x0 x1 x2 x3 x4 x5 x6
 refine (show Calls _ _ _ _ _ from fZt W2 none none none none (some A1) 0 0 0 0 2 0 0 0 0 goodC 1 0 d1 (by decide) (by decide) (by decide) (by decide) (by decide) (by decide)).mono ?_
 intro e W3 he
 rw [good_audit] at he
 change ProgEnd W2 2 _ e W3 at he
 obtain ⟨rfl,bel⟩:=he
 have q1':=(bel.block _ (aZd q1)).trans q1
 have q2:=(bel.block _ (aZd p2)).trans p2
 have d1':=Kd.C_below d1 bel
 have d2:=Kd.C_below c2 bel
 have HB3:=hid_ (HB2.out.trans (bel.mono HB2.out.size))
 clear c2 p2 q1 d1 HB2 bel
 go_upto_region 4 with (fail)
 have bel:=aZb (Below.refl W3.heap.size W3) (.cells #[.int .i64 1,.int .i64 2] 31)
 have s3:=heap_alloc_new W3 (.cells #[.int .i64 1,.int .i64 2] 31)
 have q1:=(bel.block _ (aZd q1')).trans q1'
 have p2:=(bel.block _ (aZd q2)).trans q2
 have d1:=Kd.C_below d1' bel
 have c2:=Kd.C_below d2 bel
 have HB4:=hid_ (HB3.out.trans (bel.mono HB3.out.size))
 clear q1' q2 d1' d2 HB3 bel
 generalize W3.alloc (.cells #[.int .i64 1,.int .i64 2] 31)=W4 at s3 q1 p2 d1 c2 HB4 ⊢
 generalize W3.heap.size=X3 at s3 ⊢
 obtain ⟨x0,x1,x2,x3,x4,x5,x6⟩:=cZl p2
 go_wp2_with (fail)
 clear x0 x1 x2 x3 x4 x5 x6
 refine (show Calls _ _ _ _ _ from fZt W4 none none none none (some A2) 0 0 0 0 4 0 0 0 0 badC 2 0 c2 (by decide) (by decide) (by decide) (by decide) (by decide) (by decide)).mono ?_
 intro e W5 he
 rw [bad_audit] at he
 obtain ⟨F,rfl,-,hF,bel⟩:=he
 have s5:=(bel.block _ (aZd s3)).trans s3
 have q5:=(bel.block _ (aZd q1)).trans q1
 have d5:=Kd.C_below d1 bel
 have HB5:=hid_ (HB4.out.trans (bel.mono HB4.out.size))
 clear s3 q1 p2 d1 c2 HB4 bel
 go_upto_region 5 with (fail)
 have bel:=aZb (Below.refl W5.heap.size W5) (.cells #[.int .i64 0,.int .i64 0] 31)
 have f6:=(bel.block _ (aZd hF)).trans hF
 have s6:=(bel.block _ (aZd s5)).trans s5
 have q6:=(bel.block _ (aZd q5)).trans q5
 have d6:=Kd.C_below d5 bel
 have HB6:=hid_ (HB5.out.trans (bel.mono HB5.out.size))
 clear hF s5 q5 d5 HB5 bel
 generalize W5.alloc (.cells #[.int .i64 0,.int .i64 0] 31)=W6 at f6 s6 q6 d6 HB6 ⊢
 generalize W5.heap.size=X5
 go_upto_region 6 with (fail)
 have bel:=aZb (Below.refl W6.heap.size W6) (.cells #[.int .u8 66,.int .u8 82,.int .u8 84,.int .u8 1,.int .u8 1,.int .u8 0,.int .u8 0,.int .u8 0,.int .u8 0,.int .u8 0,.int .u8 2,.int .u8 2,.int .u8 0,.int .u8 36] 5)
 have c7:Kd.C (Kd.int .u8) (W6.alloc (.cells #[.int .u8 66,.int .u8 82,.int .u8 84,.int .u8 1,.int .u8 1,.int .u8 0,.int .u8 0,.int .u8 0,.int .u8 0,.int .u8 0,.int .u8 2,.int .u8 2,.int .u8 0,.int .u8 36] 5)) (some ⟨W6.heap.size,0,none⟩) goodB.length goodB:=C_ints (t:=5) (heap_alloc_new W6 _) (by decide)
 have f7:=(bel.block _ (aZd f6)).trans f6
 have s7:=(bel.block _ (aZd s6)).trans s6
 have q7:=(bel.block _ (aZd q6)).trans q6
 have d7:=Kd.C_below d6 bel
 have HB7:=hid_ (HB6.out.trans (bel.mono HB6.out.size))
 clear f6 s6 q6 d6 HB6 bel
 generalize W6.alloc (.cells #[.int .u8 66,.int .u8 82,.int .u8 84,.int .u8 1,.int .u8 1,.int .u8 0,.int .u8 0,.int .u8 0,.int .u8 0,.int .u8 0,.int .u8 2,.int .u8 2,.int .u8 0,.int .u8 36] 5)=W7 at f7 s7 q7 d7 c7 HB7 ⊢
 generalize (⟨W6.heap.size,0,none⟩:Addr)=A7 at c7 ⊢
 refine (show Calls _ _ _ _ _ from gZh W7 (some A7) 14 goodB c7 (by decide) goodB_good).mono ?_
 intro e W8 he
 rw [good_bytes] at he
 obtain ⟨v,rfl,hp,bel⟩:∃ v,e=.returned (.tuple #[v,.agg #[.int .i64 1,.int .i64 2],.nilIface])∧IsPg W7.heap.size goodP v W8∧Below W7.heap.size W7 W8:=he
 obtain ⟨B0,B1,B2,B3,B4,e0,e1,e2,e3,e4,rfl,-⟩:=hp.read
 have f8:=(bel.block _ (aZd f7)).trans f7
 have s8:=(bel.block _ (aZd s7)).trans s7
 have q8:=(bel.block _ (aZd q7)).trans q7
 have d8:=Kd.C_below d7 bel
 have HB8:=hid_ (HB7.out.trans (bel.mono HB7.out.size))
 clear f7 s7 q7 d7 c7 HB7 bel hp
 rw [show cZs B0 B1 B2 B3 B4 e0 e1 e2 e3 e4 goodP=.agg #[.slice B0 0 e0,.slice B1 0 e1,.slice B2 0 e2,.slice B3 0 e3,.slice B4 2 e4,.int .i64 1,.int .i64 0] from rfl]
 go_upto_region 6 with (fail)
 have bel:=aZb (aZb (Below.refl W8.heap.size W8) (.cells #[.slice B0 0 e0,.slice B1 0 e1,.slice B2 0 e2,.slice B3 0 e3,.slice B4 2 e4,.int .i64 1,.int .i64 0] 28)) (.cells #[.int .i64 1,.int .i64 2] 31)
 have b9:=heap_alloc_new W8 (.cells #[.slice B0 0 e0,.slice B1 0 e1,.slice B2 0 e2,.slice B3 0 e3,.slice B4 2 e4,.int .i64 1,.int .i64 0] 28)
 have b9:=(heap_alloc_old _ (.cells #[.int .i64 1,.int .i64 2] 31) (aZd b9)).trans b9
 have t9:=heap_alloc_new (W8.alloc (.cells #[.slice B0 0 e0,.slice B1 0 e1,.slice B2 0 e2,.slice B3 0 e3,.slice B4 2 e4,.int .i64 1,.int .i64 0] 28)) (.cells #[.int .i64 1,.int .i64 2] 31)
 rw [World.size_alloc] at t9
 have f9:=(bel.block _ (aZd f8)).trans f8
 have s9:=(bel.block _ (aZd s8)).trans s8
 have q9:=(bel.block _ (aZd q8)).trans q8
 have d9:=Kd.C_below d8 bel
 have HB9:=hid_ (HB8.out.trans (bel.mono HB8.out.size))
 clear f8 s8 q8 d8 HB8 bel
 generalize (W8.alloc (.cells #[.slice B0 0 e0,.slice B1 0 e1,.slice B2 0 e2,.slice B3 0 e3,.slice B4 2 e4,.int .i64 1,.int .i64 0] 28)).alloc (.cells #[.int .i64 1,.int .i64 2] 31)=W9 at b9 t9 f9 s9 q9 d9 HB9 ⊢
 generalize W8.heap.size+1=Y9 at t9 ⊢
 generalize W8.heap.size=X9 at b9 ⊢
 obtain ⟨x0,x1,x2,x3,x4,x5,x6⟩:=cZl q9
 go_wp2_with (fail)
 clear x0 x1 x2 x3 x4 x5 x6
 refine (show Calls _ _ _ _ _ from stacks_any W9 none none none none (some A1) 0 0 0 0 2 0 0 0 0 goodC 1 0 d9 (by decide) (by decide) (by decide) (by decide) (by decide) (by decide)).mono ?_
 intro e W10 he
 rw [good_audit] at he
 obtain ⟨tv,rfl,ht,bel⟩:=he
 obtain ⟨ad,c,A0,c0,a1,c1,rfl,y0,y1,y2,z0,z1⟩:=told_get ht
 have b10:=(bel.block _ (aZd b9)).trans b9
 have t10:=(bel.block _ (aZd t9)).trans t9
 have f10:=(bel.block _ (aZd f9)).trans f9
 have s10:=(bel.block _ (aZd s9)).trans s9
 have HB10:=hid_ (HB9.out.trans (bel.mono HB9.out.size))
 clear b9 t9 f9 s9 q9 d9 HB9 bel ht
 obtain ⟨x0,x1,x2,x3,x4,x5,x6⟩:=cZl b10
 obtain ⟨x7,x8⟩:=cells2 t10
 obtain ⟨x9,x10⟩:=cells2 s10
 go_wp2_with (fail)
 clear x0 x1 x2 x3 x4 x5 x6 x7 x8 y0 y1 y2 z0 z1
 refine (show Calls _ _ _ _ _ from eZ3 W10 F 218 3 (by decide) f10).mono ?_
 rintro e W11 ⟨rfl,bel⟩
 have e39:=eq39 W11
 go_wp2_with (fail)
 go_ret
 exact ⟨rfl,HB10.out.trans (bel.mono HB10.out.size)⟩
abbrev AR:=Except (Int × Int) (List (List Int) × Int)
def errR {α:Type}:Except (Int × Int) α→Option (Int × Int)
  | .error f=>some f
  | .ok _=>none
def mostR:AR→Int
  | .error _=>0
  | .ok (_,m)=>m
def stepsR (len:Nat):AR→Int
  | .error _=>0
  | .ok _=>len
def evIs (r:Option (Int × Int)) (ev:Value) (W:World):Prop :=
  match r with
  | none=>ev=.nilIface
  | some (i,n)=>∃ F,ev=.iface 95 (.pointer (some ⟨F,0,none⟩))∧W.heap[F]?=some (.cells #[.int .i64 n,.int .i64 i,.string ⟨#[]⟩,.nilIface] 98 (0,0))
theorem evIs.below {r:Option (Int × Int)} {ev:Value} {W W2:World} (h:evIs r ev W) (hb:Below W.heap.size W W2):evIs r ev W2:=by
  cases r with
  | none=>exact h
  | some f=>obtain ⟨F,h1,h2⟩:=h;exact ⟨F,h1,(hb.block _ (aZd h2)).trans h2⟩
def codeR:Option (Int × Int)→Int
  | none=>0
  | some (_,n)=>n
def atR:Option (Int × Int)→Int
  | none=>0
  | some (i,_)=>i
def Num (r:Option (Int × Int)):Prop:=∀ i n,r=some (i,n)→n≠0
theorem read_any (r:Option (Int × Int)) (ev:Value) (w:World) (h:evIs r ev w) (hn:Num r):Calls Try.prog 16 #[ev] w fun e w'=>e=.returned (rdV (codeR r) (atR r))∧Below w.heap.size w w':=by
  cases r with
  | none=>obtain rfl:=h;exact read_nil w
  | some f =>
    obtain ⟨i,n⟩:=f
    obtain ⟨F,rfl,hF⟩:=h
    exact eZ3 w F n i (hn i n rfl) hF
theorem stepF_num {dep:Int} {r:S165} {x:S66} {s:St} {e:Int} (h:bZd dep r x s=.error e):214≤e∧e≤219:=by
 unfold bZd at h
 split at h
 · injection h with h;omega
 split at h
 · injection h with h;omega
 split at h
 ·
  rename_i e2 hp
  injection h with h
  subst h
  unfold putF at hp
  split at hp
  · cases hp
  split at hp
  · cases hp
  split at hp
  ·
   split at hp
   · injection hp with hp;omega
   · cases hp
  · cases hp
 ·
  split at h
  · injection h with h;omega
  split at h
  · injection h with h;omega
  · cases h
theorem fZp (k:Wk):∀ (d i:Nat) (s:St) (M:List (Int × St)) (told:List (List Int)) (most:Int) (p n:Int),runL k d i s M told most=.error (p,n)→n≠0
  | 0,i,s,M,told,most,p,n,h=>by cases h
  | d+1,i,s,M,told,most,p,n,h=>by
    rw [runL] at h
    split at h
    · rename_i hf
      injection h with h;injection h with h1 h2
      subst h2;exact hf
    split at h
    · injection h with h;injection h with h1 h2;omega
    split at h
    · rename_i e he
      injection h with h;injection h with h1 h2
      have:=stepF_num he
      omega
    · rename_i s2 he
      split at h
      · exact fZp k d _ _ _ _ _ p n h
      split at h
      · cases h
      · exact fZp k d _ _ _ _ _ p n h
theorem auditF_num {nT nN nS nM:Nat} {C:List S66} {dep loc:Int}:Num (errR (aZ1 nT nN nS nM C dep loc)):=by
 intro p n h
 by_cases hd:aZF nT nN nS nM C dep loc
 ·
  rw [fZg hd] at h
  injection h with h;injection h with h1 h2;omega
 ·
  rw [dZF hd] at h
  split at h
  · injection h with h;injection h with h1 h2;omega
  ·
   cases hr:runF (K0 nT nN nS nM C dep loc) with
   | ok x=>rw [hr] at h;cases h
   | error f =>
    rw [hr] at h
    injection h with h
    subst h
    exact fZp _ _ _ _ _ _ _ _ _ hr
theorem dZX (g:Pg):Num (errR (bZa g)):=auditF_num
theorem dZ8 {bs:List Int} {k q:Int} (h:aZG bs=.error (k,q)):k≠0:=by have:=gZs bs k q h;omega
theorem bytesF_num (bs:List Int):Num (errR (aZ7 bs)):=by
  intro p n h
  cases hp:aZG bs with
  | error f=>obtain ⟨k,q⟩:=f;rw [dZc hp] at h;injection h with h;injection h with h1 h2;subst h2;exact dZ8 hp
  | ok gq =>
    obtain ⟨g,q⟩:=gq
    cases ha:bZa g with
    | error f=>rw [dZd hp ha] at h;have:=dZX g p n;rw [ha] at this;exact this h
    | ok tm=>obtain ⟨t,m⟩:=tm;rw [cZ4 hp ha] at h;cases h
def Pg0:Pg:=⟨[],[],[],[],[],0,0⟩
theorem isPg0 (base:Nat) (w:World):IsPg base Pg0 zPg w:=⟨_,_,_,_,_,rfl,Kd.R_nil _ _ _ _ _,Kd.R_nil _ _ _ _ _,Kd.R_nil _ _ _ _ _,Kd.R_nil _ _ _ _ _,Kd.R_nil _ _ _ _ _⟩
theorem fits0:Fits Pg0:=⟨by decide,by decide,by decide,by decide,by decide,fun x hx=>(by cases hx),fun x hx=>(by cases hx)⟩
abbrev BR:=Except (Int × Int) (Pg × Int)
def pgR:BR→Pg
  | .error _=>Pg0
  | .ok (g,_)=>g
def bmostR:BR→Int
  | .error _=>0
  | .ok (_,m)=>m
def bstepsR:BR→Int
  | .error _=>0
  | .ok (g,_)=>g.C.length
theorem bytes_u (w:World) (A:Option Addr) (c:Nat) (bs:List Int) (hC:Kd.C (Kd.int .u8) w A bs.length bs) (hc:bs.length≤c) (G:Good bs) :
    Calls Try.prog 18 #[.slice A bs.length c] w fun e w'=>∃ v ev,e=.returned (.tuple #[v,.agg #[.int .i64 (bmostR (aZ7 bs)),.int .i64 (bstepsR (aZ7 bs))],ev])∧IsPg w.heap.size (pgR (aZ7 bs)) v w'∧evIs (errR (aZ7 bs)) ev w'∧Below w.heap.size w w':=by
  refine (gZh w A c bs hC hc G).mono ?_
  intro e w' he
  cases hr:aZ7 bs with
  | error x=>obtain ⟨i,n⟩:=x;rw [hr] at he;obtain ⟨F,rfl,-,hF,hb⟩:=he;exact ⟨_,_,rfl,isPg0 _ _,⟨F,rfl,hF⟩,hb⟩
  | ok x=>obtain ⟨g,m⟩:=x;rw [hr] at he;obtain ⟨v,rfl,hp,hb⟩:=he;exact ⟨_,_,rfl,hp,rfl,hb⟩
structure StL (w W:World) (X:Nat) (A0 A1 A2 A3 A4:Option Addr) (c0 c1 c2 c3 c4:Nat) (g:Pg):Prop where
  below:Below w.heap.size w W
  box:W.heap[X]?=some (.cells #[.slice A0 g.T.length c0,.slice A1 g.N.length c1,.slice A2 g.S.length c2,.slice A3 g.M.length c3,.slice A4 g.C.length c4,.int .i64 g.dep,.int .i64 g.loc] 28 (0,0))
  pg:InPg W A0 A1 A2 A3 A4 c0 c1 c2 c3 c4 g
theorem StL.next {w W W2:World} {X:Nat} {A0 A1 A2 A3 A4:Option Addr} {c0 c1 c2 c3 c4:Nat} {g:Pg} (h:StL w W X A0 A1 A2 A3 A4 c0 c1 c2 c3 c4 g) (hb:Below W.heap.size W W2):StL w W2 X A0 A1 A2 A3 A4 c0 c1 c2 c3 c4 g :=
  ⟨h.below.trans (hb.mono h.below.size),(hb.block _ (aZd h.box)).trans h.box,h.pg.below hb⟩
theorem cZt (W:World) (a b:Obj):((W.alloc a).alloc b).heap[W.heap.size]?=some a∧((W.alloc a).alloc b).heap[W.heap.size+1]?=some b∧Below W.heap.size W ((W.alloc a).alloc b):=by
  have h:=heap_alloc_new (W.alloc a) b
  rw [World.size_alloc] at h
  exact ⟨(heap_alloc_old _ _ (aZd (heap_alloc_new W a))).trans (heap_alloc_new W a),h,aZb (aZb (Below.refl _ _) _) _⟩
theorem own_empty5 (W:World):(Kd.int .u8).R 5 (W.alloc (.cells #[] 5)) W.heap.size (fun k=>W.heap.size≤k) (.slice (some ⟨W.heap.size,0,none⟩) 0 0) []:=by
  have h:=World.ownsRow_lit (base:=W.heap.size) (e:=5) (size:=1) W #[] 0 (Nat.le_refl _) (by simp [maxLen]) (by simp)
  exact own_ints (xs:=[]) (by simpa using h) (fun k hk=>hk)
theorem aZj {W W2:World} {k:Nat} {o:Obj} (h:W.heap[k]?=some o) (hb:Below W.heap.size W W2):W2.heap[k]?=some o:=(hb.block _ (aZd h)).trans h
theorem rowsL_local:∀ i:_root_.Fin 37,((rowsL.getD i.1 z165).f2=⟨#[76]⟩→bt (rowsL.getD i.1 z165).f0 0=108)∧(i.1=31→bt (rowsL.getD i.1 z165).f0 0=108)∧(i.1=36→(rowsL.getD i.1 z165).f1.size=1):=by decide +kernel
theorem row_local (op:Int) (h0:1≤op) (h1:op≤36):((aZf rowsL op).f2=⟨#[76]⟩→bt (aZf rowsL op).f0 0=108)∧(op=31→bt (aZf rowsL op).f0 0=108)∧(op=36→(aZf rowsL op).f1.size=1):=by
  obtain ⟨h2,h3,h4⟩:=rowsL_local ⟨op.toNat,by omega⟩
  exact ⟨h2,fun h=>h3 (by show op.toNat=31;omega),fun h=>h4 (by show op.toNat=36;omega)⟩
def pad (z:Nat) (s:St):St:=⟨s.stk,s.loc++List.replicate z 0,s.joined⟩
def padM (z:Nat) (M:List (Int × St)):List (Int × St):=M.map fun x=>(x.1,pad z x.2)
theorem eZC {k:Wk} {i:Nat} (h:bZx k i=0):1≤(aZg k.C i).f0∧(aZg k.C i).f0≤36∧(bt (aZf rowsL (aZg k.C i).f0).f0 0=108→0≤(aZg k.C i).f1∧(aZg k.C i).f1<k.loc)∧((aZg k.C i).f0=36↔i+1=k.C.length):=by
 unfold bZx at h
 split at h
 · omega
 ·
  rename_i h1
  split at h
  · omega
  ·
   rename_i h2
   refine ⟨by omega,by omega,fun hb=>?_,?_⟩
   ·
    have h3:bZH k (bt (aZf rowsL (aZg k.C i).f0).f0 0) (aZg k.C i).f1=true:=by
     cases hq:bZH k _ _ with
     | true=>rfl
     | false=>exact absurd (.inl hq) h2
    rw [hb] at h3
    simpa [bZH] using h3
   ·
    unfold cZU at h
    split at h
    · omega
    ·
     split at h
     · assumption
     · omega
theorem eZ7 (z:Nat):∀ (a b:List Int),a.length=b.length→aZD (a++List.replicate z 0) (b++List.replicate z 0)=aZD a b++List.replicate z 0:=by
  intro a b h
  unfold aZD
  rw [List.zipWith_append h]
  congr 1
  induction z with
  | zero=>rfl
  | succ z ih=>rw [List.replicate_succ,List.zipWith_cons_cons,ih];simp
theorem arrive_pad {M:List (Int × St)} {i:Int} {s:St} {z L:Nat} (hs:s.loc.length=L) (hM:∀ x∈M,x.2.loc.length=L):aZP (padM z M) i (pad z s)=pad z (aZP M i s)∧(aZP M i s).loc.length=L:=by
 have hl:look (padM z M) i=(look M i).map (pad z):=dZA (pad z) i M
 cases h:look M i with
 | none=>rw [h] at hl;rw [bZU hl,bZU h];exact ⟨rfl,hs⟩
 | some o =>
  rw [h] at hl
  have ho:o.loc.length=L:=hM _ (bZo i M o h)
  rw [bZz hl,bZz h]
  refine ⟨?_,?_⟩
  ·
   unfold aZB pad
   dsimp only
   rw [eZ7 z _ _ (by omega)]
  ·
   unfold aZB
   dsimp only
   rw [aZW _ _ (by omega)]
   exact ho
theorem arrive_stk {M:List (Int × St)} {i:Int} {s:St} (h:(aZP M i s).joined=false):(aZP M i s).stk=s.stk:=by
  cases hl:look M i with
  | none=>rw [bZU hl]
  | some o =>
    rw [bZz hl] at h ⊢
    unfold aZB at h ⊢
    simp at h
    exact h.2
theorem putF_pad {p:ByteArray} {x:S66} {stk loc:List Int} {f:Int} {z:Nat} {stk2 loc2:List Int} (h:putF p x stk loc f=.ok (stk2,loc2)) (h1:p=⟨#[76]⟩→x.f1.toNat<loc.length) (h2:x.f0=31→x.f1.toNat<loc.length) :
 putF p x stk (loc++List.replicate z 0) f=.ok (stk2,loc2++List.replicate z 0)∧loc2.length=loc.length:=by
 unfold putF at h ⊢
 split at h
 ·
  rename_i hp
  rw [if_pos hp]
  injection h with h;injection h with h3 h4
  subst h3;subst h4
  split
  ·
   rename_i ho
   exact ⟨by rw [List.set_append_left _ _ (h2 ho)],by simp⟩
  · exact ⟨rfl,rfl⟩
 ·
  rename_i hp
  rw [if_neg hp]
  split at h
  ·
   rename_i hp2
   rw [if_pos hp2]
   injection h with h;injection h with h3 h4
   subst h3;subst h4
   exact ⟨rfl,rfl⟩
  ·
   rename_i hp2
   rw [if_neg hp2]
   split at h
   ·
    rename_i hp3
    rw [if_pos hp3]
    have hg:(loc++List.replicate z 0).getD x.f1.toNat 0=loc.getD x.f1.toNat 0:=by
     simp only [List.getD_eq_getElem?_getD]
     rw [List.getElem?_append_left (h1 hp3)]
    rw [hg]
    split at h
    · cases h
    ·
     rename_i h0
     rw [if_neg h0]
     injection h with h;injection h with h3 h4
     subst h3;subst h4
     exact ⟨rfl,rfl⟩
   ·
    rename_i hp3
    rw [if_neg hp3]
    injection h with h;injection h with h3 h4
    subst h3;subst h4
    exact ⟨rfl,rfl⟩
theorem step_wide {dep dep':Int} {r:S165} {x:S66} {s s2:St} {z:Nat} (h:bZd dep r x s=.ok s2) (h1:r.f2=⟨#[76]⟩→x.f1.toNat<s.loc.length) (h2:x.f0=31→x.f1.toNat<s.loc.length) :
 (s2.stk.length≤dep'→bZd dep' r x (pad z s)=.ok (pad z s2))∧(dep'<s2.stk.length→bZd dep' r x (pad z s)=.error 216)∧s2.stk.length≤dep∧s2.loc.length=s.loc.length∧(x.f0=36→s2.stk.length=0)∧r.f1.size≤s.stk.length:=by
 unfold bZd at h ⊢
 have hp:(pad z s).stk=s.stk:=rfl
 have hp2:(pad z s).loc=s.loc++List.replicate z 0:=rfl
 have hp3:(pad z s).joined=s.joined:=rfl
 rw [hp,hp2,hp3]
 split at h
 · cases h
 ·
  rename_i g1
  rw [if_neg g1]
  split at h
  · cases h
  ·
   rename_i g2
   rw [if_neg g2]
   split at h
   · cases h
   ·
    rename_i stk loc hput
    obtain ⟨q1,q2⟩:=putF_pad (z:=z) hput h1 h2
    rw [q1]
    split at h
    · cases h
    ·
     rename_i g3
     split at h
     · cases h
     ·
      rename_i g4
      injection h with h
      subst h
      dsimp only
      refine ⟨fun hd=>?_,fun hd=>?_,by omega,q2,fun h36=>?_,by omega⟩
      · rw [if_neg (by omega),if_neg g4];rfl
      · rw [if_pos hd]
      ·
       by_cases h0:0<stk.length
       · exact absurd ⟨h36,h0⟩ g4
       · omega
theorem gZx {o s:St} {z:Nat} (h:o.loc.length=s.loc.length):aZB (pad z o) (pad z s)=pad z (aZB o s):=by
  unfold aZB pad
  dsimp only
  rw [eZ7 z _ _ h]
theorem lead_pad {M:List (Int × St)} {t:Int} {s:St} {z L:Nat} (hs:s.loc.length=L) (hM:∀ x∈M,x.2.loc.length=L):dZq (padM z M) t (pad z s)=padM z (dZq M t s)∧∀ x∈dZq M t s,x.2.loc.length=L:=by
 have hl:look (padM z M) t=(look M t).map (pad z):=dZA (pad z) t M
 unfold dZq
 rw [hl]
 cases h:look M t with
 | none =>
  dsimp only [Option.map]
  refine ⟨by unfold padM;rw [List.map_append];rfl,fun x hx=>?_⟩
  rcases List.mem_append.1 hx with hx|hx
  · exact hM x hx
  · rw [List.mem_singleton.1 hx];exact hs
 | some o =>
  dsimp only [Option.map]
  have ho:o.loc.length=L:=hM _ (bZo t M o h)
  rw [gZx (by omega)]
  refine ⟨gZl (pad z) t (aZB o s) M,fun x hx=>?_⟩
  rcases dZP t _ M x hx with hx|rfl
  · exact hM x hx
  ·
   show (aZD o.loc s.loc).length=L
   rw [aZW _ _ (by omega)];exact ho
def LeL (a b:List Int):Prop:=a.length=b.length∧∀ i:Nat,a.getD i 0≠0→b.getD i 0=a.getD i 0
theorem LeL.refl (a:List Int):LeL a a:=⟨rfl,fun _ _=>rfl⟩
theorem LeL.trans {a b c : List Int} (h : LeL a b) (h' : LeL b c) : LeL a c := ⟨h.1.trans h'.1, fun i hi => by
  have h1:=h.2 i hi
  rw [h'.2 i (by rw [h1];exact hi),h1]⟩
theorem cZN (a b:List Int) (h:a.length=b.length) (i:Nat):(aZD a b).getD i 0=if a.getD i 0=b.getD i 0 then a.getD i 0 else 0:=by
 unfold aZD
 simp only [List.getD_eq_getElem?_getD,List.getElem?_zipWith]
 rcases Nat.lt_or_ge i a.length with hi|hi
 ·
  rw [List.getElem?_eq_getElem hi,List.getElem?_eq_getElem (by omega:i<b.length)]
  simp
 ·
  rw [List.getElem?_eq_none hi,List.getElem?_eq_none (by omega:b.length≤i)]
  simp
theorem dZz (a b:List Int) (h:a.length=b.length):LeL (aZD a b) a∧LeL (aZD a b) b:=by
 refine ⟨⟨aZW a b h,fun i hi=>?_⟩,⟨by rw [aZW a b h,h],fun i hi=>?_⟩⟩
 ·
  rw [cZN a b h] at hi ⊢
  split at hi
  · rename_i he;rw [if_pos he]
  · exact absurd rfl hi
 ·
  rw [cZN a b h] at hi ⊢
  split at hi
  · rename_i he;rw [if_pos he,he]
  · exact absurd rfl hi
theorem cZO {α:Type} (k t:Int) (hk:t≠k):∀ L:List (Int × α),look (del L k) t=look L t
  | []=>rfl
  | (j,h) :: r=>by
    unfold del
    split
    · rename_i hj
      rw [look,if_neg (by omega)]
    · rw [look,look,cZO k t hk r]
theorem cZe {α:Type} (t:Int) (x:Int × α):∀ L:List (Int × α),look (L++[x]) t=match look L t with|some o=>some o|none=>if x.1=t then some x.2 else none
  | []=>by simp [look]
  | (j,h) :: r=>by
    rw [List.cons_append,look,look]
    split
    · rfl
    · exact cZe t x r
theorem bZ5 {α:Type} (k:Int) (y:α):∀ L:List (Int × α),look L k≠none→look (upd L k y) k=some y
  | [],h=>absurd rfl h
  | (j,z) :: r,h=>by
    rw [upd]
    split
    · rename_i hj;rw [look,if_pos hj]
    · rename_i hj
      rw [look,if_neg hj] at h
      rw [look,if_neg hj]
      exact bZ5 k y r h
theorem dZo {α:Type} (k t:Int) (y:α) (hk:t≠k):∀ L:List (Int × α),look (upd L k y) t=look L t
  | []=>rfl
  | (j,z) :: r=>by
    rw [upd]
    split
    · rename_i hj;rw [look,look,if_neg (by omega),if_neg (by omega)]
    · rw [look,look,dZo k t y hk r]
def To (σ s:St):Prop:=σ.stk=s.stk∧LeL σ.loc s.loc
theorem To.refl (s:St):To s s:=⟨rfl,LeL.refl _⟩
def GoodAt (k:Wk) (i:Nat) (Z:List St):Prop :=
  ∃ σ r s2,Z=σ :: r∧σ.loc.length=k.loc.toNat∧bZx k i=0∧bZd k.dep (aZf rowsL (aZg k.C i).f0) (aZg k.C i) σ=.ok s2 ∧
    ((aZg k.C i).f0≠36→∃ σ',r.head?=some σ'∧To σ' s2)∧((aZg k.C i).f0=33∨(aZg k.C i).f0=34→∃ σ',Z[((aZg k.C i).f1 - i).toNat]?=some σ'∧To σ' s2)
theorem eZ0 (k:Wk) (hk:0≤k.loc):∀ (d i:Nat) (s:St) (M:List (Int × St)) (told:List (List Int)) (most:Int) (t:List (List Int)) (m:Int),
 i+d=k.C.length→s.loc.length=k.loc.toNat→(∀ x∈M,x.2.loc.length=k.loc.toNat)→runL k d i s M told most=.ok (t,m) →
 ∃ Z:List St,Z.length=d∧t=told++Z.map St.stk∧most≤m∧(∀ σ∈Z,(σ.stk.length:Int)≤m)∧(∀ σ,Z.head?=some σ→To σ s) ∧
  (∀ (p:Int) (o:St),look M p=some o→(i:Int)≤p→p<k.C.length→o.joined=false∧∃ σ,Z[(p - i).toNat]?=some σ∧To σ o) ∧
  ∀ j,j<d→GoodAt k (i+j) (Z.drop j)
 | 0,i,s,M,told,most,t,m,hi,hs,hM,h=>by
  injection h with h;injection h with h1 h2
  subst h1;subst h2
  exact ⟨[],rfl,by simp,Int.le_refl _,by simp,by simp,fun p o _ h1 h2=>by omega,fun j hj=>absurd hj (Nat.not_lt_zero _)⟩
 | d+1,i,s,M,told,most,t,m,hi,hs,hM,h=>by
  rw [runL] at h
  split at h
  · cases h
  rename_i g1
  have hf:bZx k i=0:=by
   by_cases hq:bZx k i=0
   · exact hq
   · exact absurd hq g1
  obtain ⟨f1,f2,f3,f4⟩:=eZC hf
  obtain ⟨r1,r2,r3⟩:=row_local _ f1 f2
  split at h
  · cases h
  rename_i g2
  obtain ⟨a1,a2⟩:=arrive_pad (i:=(i:Int)) (z:=0) hs hM
  have hj:(aZP M i s).joined=false:=by simpa using g2
  have hst:=arrive_stk hj
  split at h
  · cases h
  rename_i s2 hstep
  have hlt1:(aZf rowsL (aZg k.C i).f0).f2=⟨#[76]⟩→(aZg k.C i).f1.toNat<(aZP M i s).loc.length:=fun h=>by
   have:=f3 (r1 h);rw [a2];omega
  have hlt2:(aZg k.C i).f0=31→(aZg k.C i).f1.toNat<(aZP M i s).loc.length:=fun h=>by
   have:=f3 (r2 h);rw [a2];omega
  obtain ⟨-,-,w3,w4,w5,w6⟩:=step_wide (dep':=0) (z:=0) hstep hlt1 hlt2
  have hM2:∀ x∈del M i,x.2.loc.length=k.loc.toNat:=fun x hx=>hM x (dZn _ _ _ hx)
  have hs2:s2.loc.length=k.loc.toNat:=by rw [w4,a2]
  have hTo:To (aZP M i s) s:=by
   refine ⟨hst,?_⟩
   cases hl:look M i with
   | none=>rw [bZU hl];exact LeL.refl _
   | some o =>
    rw [bZz hl]
    exact (dZz o.loc s.loc (by rw [hM _ (bZo i M o hl),hs])).2
  have hTo2:∀ o,look M i=some o→o.joined=false∧To (aZP M i s) o:=fun o hl=>by
   rw [bZz hl] at hj ⊢
   have hjj:o.joined=false∧o.stk=s.stk:=by
    unfold aZB at hj;simp at hj;exact hj
   exact ⟨hjj.1,rfl,(dZz o.loc s.loc (by rw [hM _ (bZo i M o hl),hs])).1⟩
  have hrd:aZg k.C i=aZg k.C (i:Int):=rfl
  by_cases h36:(aZg k.C i).f0=36
  ·
   have hn33:¬((aZg k.C i).f0=33∨(aZg k.C i).f0=34):=by omega
   rw [if_neg hn33,if_pos h36] at h
   injection h with h;injection h with h1 h2
   subst h1;subst h2
   have hd0:d=0:=by have:=f4.1 h36;omega
   subst hd0
   refine ⟨[aZP M i s],rfl,by simp,by omega,fun σ hσ=>?_,fun σ hσ=>?_,fun p o hl h1 h2=>?_,fun j hj=>?_⟩
   · rw [List.mem_singleton.1 hσ];omega
   · injection hσ with hσ;subst hσ;exact hTo
   ·
    have hp:p=(i:Int):=by omega
    subst hp
    obtain ⟨q1,q2⟩:=hTo2 o hl
    exact ⟨q1,_,by rw [show ((i:Int) - i).toNat=0 by omega];rfl,q2⟩
   ·
    have:j=0:=by omega
    subst this
    exact ⟨_,[],s2,rfl,a2,hf,hstep,fun h=>absurd h36 h,fun h=>absurd h hn33⟩
  ·
   have hd0:0<d:=by
    rcases Nat.eq_zero_or_pos d with h|h
    · exact absurd (f4.2 (by omega)) h36
    · exact h
   rw [if_neg h36] at h
   have key:∀ M2:List (Int × St),(∀ x∈M2,x.2.loc.length=k.loc.toNat)→(∀ p o,look M p=some o→p≠i→∃ o2,look M2 p=some o2∧(o2.joined=false→o.joined=false∧To o2 o)) →
    ((aZg k.C i).f0=33∨(aZg k.C i).f0=34→((i:Int)<(aZg k.C i).f1∧(aZg k.C i).f1<k.C.length)∧∃ o2,look M2 (aZg k.C i).f1=some o2∧(o2.joined=false→To o2 s2)) →
    runL k d (i+1) s2 M2 (told++[(aZP M i s).stk]) (max most (aZP M i s).stk.length)=.ok (t,m) →
    ∃ Z:List St,Z.length=d+1∧t=told++Z.map St.stk∧most≤m∧(∀ σ∈Z,(σ.stk.length:Int)≤m)∧(∀ σ,Z.head?=some σ→To σ s) ∧
     (∀ (p:Int) (o:St),look M p=some o→(i:Int)≤p→p<k.C.length→o.joined=false∧∃ σ,Z[(p - i).toNat]?=some σ∧To σ o) ∧
     ∀ j,j<d+1→GoodAt k (i+j) (Z.drop j):=by
    intro M2 hM2' hkeep hjump hr
    obtain ⟨Z,b1,b2,b3,b4,b5,b6,b7⟩:=eZ0 k hk d (i+1) s2 M2 _ _ t m (by omega) hs2 hM2' hr
    refine ⟨aZP M i s :: Z,by simp [b1],by rw [b2];simp,by omega,fun σ hσ=>?_,fun σ hσ=>?_,fun p o hl h1 h2=>?_,fun j hj=>?_⟩
    ·
     rcases List.mem_cons.1 hσ with rfl|hσ
     · omega
     · exact b4 σ hσ
    · injection hσ with hσ;subst hσ;exact hTo
    ·
     by_cases hp:p=(i:Int)
     ·
      subst hp
      obtain ⟨q1,q2⟩:=hTo2 o hl
      exact ⟨q1,_,by rw [show ((i:Int) - i).toNat=0 by omega];rfl,q2⟩
     ·
      obtain ⟨o2,e1,e2⟩:=hkeep p o hl hp
      obtain ⟨e3,σ,e4,e5⟩:=b6 p o2 e1 (by push_cast;omega) h2
      obtain ⟨e6,e7⟩:=e2 e3
      refine ⟨e6,σ,?_,e5.1.trans e7.1,e5.2.trans e7.2⟩
      rw [show (p - i).toNat=(p - (i+1:Nat)).toNat+1 by push_cast;omega,List.getElem?_cons_succ]
      exact e4
    ·
     cases j with
     | succ j =>
      have:=b7 j (by omega)
      rw [List.drop_succ_cons,show i+(j+1)=i+1+j by omega]
      exact this
     | zero =>
      refine ⟨_,Z,s2,rfl,a2,hf,hstep,fun _=>?_,fun h33=>?_⟩
      ·
       cases hZ:Z with
       | nil=>rw [hZ] at b1;simp at b1;omega
       | cons σ r=>exact ⟨σ,rfl,b5 σ (by rw [hZ];rfl)⟩
      ·
       obtain ⟨⟨j1,j2⟩,o2,e1,e2⟩:=hjump h33
       obtain ⟨e3,σ,e4,e5⟩:=b6 _ o2 e1 (by push_cast;omega) j2
       have e6:=e2 e3
       refine ⟨σ,?_,e5.1.trans e6.1,e5.2.trans e6.2⟩
       show (aZP M i s :: Z)[((aZg k.C i).f1 - (i+0:Nat)).toNat]?=some σ
       rw [show ((aZg k.C i).f1 - (i+0:Nat)).toNat=((aZg k.C i).f1 - (i+1:Nat)).toNat+1 by push_cast;omega,List.getElem?_cons_succ]
       exact e4
   by_cases h33:(aZg k.C i).f0=33∨(aZg k.C i).f0=34
   ·
    rw [if_pos h33] at h
    have htg:(i:Int)<(aZg k.C i).f1∧(aZg k.C i).f1<k.C.length:=by
     unfold bZx at hf
     split at hf
     · omega
     split at hf
     · omega
     unfold cZU at hf
     split at hf
     · omega
     ·
      rename_i hx
      by_cases q1:(aZg k.C i).f1≤i
      · exact absurd ⟨h33,.inl q1⟩ hx
      ·
       by_cases q2:(k.C.length:Int)≤(aZg k.C i).f1
       · exact absurd ⟨h33,.inr q2⟩ hx
       · omega
    obtain ⟨l1,l2⟩:=lead_pad (t:=(aZg k.C i).f1) (z:=0) hs2 hM2
    refine key _ l2 (fun p o hl hp=>?_) (fun _=>⟨htg,?_⟩) h
    ·
     have hl2:look (del M i) p=some o:=by rw [cZO _ _ hp];exact hl
     unfold dZq
     by_cases hpa:p=(aZg k.C i).f1
     ·
      subst hpa
      rw [hl2]
      dsimp only
      refine ⟨_,bZ5 _ _ _ (by rw [hl2];exact fun h=>by cases h),fun hjn=>?_⟩
      have ho:o.loc.length=k.loc.toNat:=hM _ (bZo _ M o hl)
      have hjj:o.joined=false∧o.stk=s2.stk:=by unfold aZB at hjn;simp at hjn;exact hjn
      exact ⟨hjj.1,rfl,(dZz o.loc s2.loc (by omega)).1⟩
     ·
      cases hla:look (del M i) (aZg k.C i).f1 with
      | none =>
       dsimp only
       refine ⟨o,by rw [cZe,hl2],fun h=>⟨h,To.refl _⟩⟩
      | some o' =>
       dsimp only
       refine ⟨o,by rw [dZo _ _ _ hpa];exact hl2,fun h=>⟨h,To.refl _⟩⟩
    ·
     unfold dZq
     cases hla:look (del M i) (aZg k.C i).f1 with
     | none =>
      dsimp only
      exact ⟨⟨s2.stk,s2.loc,false⟩,by rw [cZe,hla];simp,fun _=>⟨rfl,LeL.refl _⟩⟩
     | some o' =>
      dsimp only
      refine ⟨_,bZ5 _ _ _ (by rw [hla];exact fun h=>by cases h),fun hjn=>?_⟩
      have ho:o'.loc.length=k.loc.toNat:=hM2 _ (bZo _ _ o' hla)
      have hjj:o'.joined=false∧o'.stk=s2.stk:=by unfold aZB at hjn;simp at hjn;exact hjn
      exact ⟨hjj.2,(dZz o'.loc s2.loc (by omega)).2⟩
   ·
    rw [if_neg h33] at h
    refine key _ hM2 (fun p o hl hp=>⟨o,by rw [cZO _ _ hp];exact hl,fun h=>⟨h,To.refl _⟩⟩) (fun h=>absurd h h33) h
def cZL (t:ByteArray):List Int:=(List.range t.size).map fun (j:Nat)=>bZ6 (bt t j) 0
theorem gZa (stk:List Int) (frm:Nat) (t:ByteArray) (first:Int):∀ (d j:Nat),aZz stk frm t first d j=true→∀ q,j≤q→q<j+d→fitF (stk.getD (frm+q) 0) (bt t q) first=true
  | 0,j,_,q,h1,h2=>by omega
  | d+1,j,h,q,h1,h2=>by
    rw [aZz] at h
    split at h
    · cases h
    · rename_i hf
      by_cases hq:q=j
      · subst hq;simpa using hf
      · exact gZa stk frm t first d (j+1) h q (by omega) (by omega)
theorem cell_u (a:Int):bZ6 85 a=wrap64 (1+a):=by
  unfold bZ6
  rw [if_neg (by decide),Int.add_comm]
theorem eff_u {op a:Int} {T:List Int} {c:Int} (h:berthref21_Effect.f 8 op a=some (T,wrap64 (1+a))) (hc:c=85):berthref21_Effect.f 8 op a=some (T,bZ6 c a):=by subst hc;rw [cell_u];exact h
theorem cell_ne (c a:Int) (h:c≠85→0≤cZP c) (ha:c=85→a=0∨a=1):bZ6 c a≠0:=by
 by_cases hc:c=85
 ·
  subst hc
  rw [cell_u]
  rcases ha rfl with rfl|rfl <;> decide +kernel
 ·
  have:=h hc
  unfold bZ6
  rw [if_pos this]
  omega
theorem effect_rows (op a:Int) (h1:1≤op) (h2:op≤26) (ha:bt (aZf rowsL op).f0 0=117→a=0∨a=1) :
    (∃ k,berthref21_Effect.f k op a=some (cZL (aZf rowsL op).f1,bZ6 (bt (aZf rowsL op).f2 0) a))∧(∀ j,j<(aZf rowsL op).f1.size→bt (aZf rowsL op).f1 j≠42∧bt (aZf rowsL op).f1 j≠66)∧(aZf rowsL op).f2≠⟨#[]⟩∧(aZf rowsL op).f2≠⟨#[61]⟩∧(aZf rowsL op).f2≠⟨#[76]⟩∧bt (aZf rowsL op).f0 0≠106∧bZ6 (bt (aZf rowsL op).f2 0) a≠0∧(aZf rowsL op).f1.size≤2:=by
  have hop:op=1∨op=2∨op=3∨op=4∨op=5∨op=6∨op=7∨op=8∨op=9∨op=10∨op=11∨op=12∨op=13∨op=14∨op=15∨op=16∨op=17∨op=18∨op=19∨op=20∨op=21∨op=22∨op=23∨op=24∨op=25∨op=26:=by omega
  rcases hop with rfl|rfl|rfl|rfl|rfl|rfl|rfl|rfl|rfl|rfl|rfl|rfl|rfl|rfl|rfl|rfl|rfl|rfl|rfl|rfl|rfl|rfl|rfl|rfl|rfl|rfl
  all_goals refine ⟨⟨8,?_⟩,by decide +kernel,by decide +kernel,by decide +kernel,by decide +kernel,by decide +kernel,cell_ne _ _ (by decide +kernel) (fun h=>?_),by decide +kernel⟩
  all_goals first|exact ha rfl|exact absurd h (by decide +kernel)|rfl|exact eff_u rfl rfl
theorem form_oper {k:Wk} {i:Nat} (h:bZx k i=0):bZH k (bt (aZf rowsL (aZg k.C i).f0).f0 0) (aZg k.C i).f1=true:=by
 unfold bZx at h
 split at h
 · omega
 ·
  split at h
  · omega
  ·
   rename_i h2
   cases hq:bZH k _ _ with
   | true=>rfl
   | false=>exact absurd (.inl hq) h2
theorem cells4 {W:World} {X t:Nat} {a b c d:Value} (h:W.heap[X]?=some (.cells #[a,b,c,d] t (0,0))):W.cell? ⟨X,0,none⟩=some a∧W.cell? ⟨X,1,none⟩=some b∧W.cell? ⟨X,2,none⟩=some c∧W.cell? ⟨X,3,none⟩=some d:=by
  simp [World.cell?,h]
theorem own_ints3 {W:World} {base:Nat} {ok:Nat→Prop} {v:Value} {xs:List Int} (h:W.ownsRow base 3 1 v xs.length (xs.map (Value.int .i64))) (hok:∀ k,base≤k→ok k):(Kd.int .i64).R 3 W base ok v xs :=
  ⟨fun k hk=>hok k (bZv h k hk),xs.map (Value.int .i64),h,Kd.reps_scalar (enc:=Value.int .i64) xs⟩
theorem eZ5 (W:World):(Kd.int .i64).R 3 (W.alloc (.cells #[] 3)) W.heap.size (fun k=>W.heap.size≤k) (.slice (some ⟨W.heap.size,0,none⟩) 0 0) []:=by
  have h:=World.ownsRow_lit (base:=W.heap.size) (e:=3) (size:=1) W #[] 0 (Nat.le_refl _) (by simp [maxLen]) (by simp)
  exact own_ints3 (xs:=[]) (by simpa using h) (fun k hk=>hk)
end Go.Proofs.Ytbnplhmmbnmagaa.D
