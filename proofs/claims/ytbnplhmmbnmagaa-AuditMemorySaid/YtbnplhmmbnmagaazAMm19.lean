/- wakes. -/
import Derived.Test.YtbnplhmmbnmagaazAMm11
import Derived.Test.YtbnplhmmbnmagaazAMm18
import Derived.Test.YtbnplhmmbnmagaazAMm15
import Derived.DeepKeys
import Derived.Test.YtbnplhmmbnmagaazAMm13
import Derived.ArgAppend
import Derived.Test.YtbnplhmmbnmagaazAMm4
set_option maxHeartbeats 4000000
set_option maxRecDepth 100000
set_option linter.all false
namespace Go.Proofs.Ytbnplhmmbnmagaa.D
open Go.RowKit Go.Proofs.YtbnplhmmbnmagaaW.PrintWords Go.Proofs.YtbnplhmmbnmagaaW.PrintLast Go.Proofs.YtbnplhmmbnmagaaW.PrintMore Go.Proofs.Ytbnplhmmbnmagaa.All
def goodP:Pg:=⟨[],[],[],[],goodC,1,0⟩
def goodB:List Int:=[66,82,84,1,1,0,0,0,0,0,2,2,0,36]
theorem goodP_formed:bZ7 goodP=true:=by decide
theorem goodP_enc:encP goodP=goodB:=by decide
theorem goodB_dec:aZJ goodB=.ok (goodP,(goodB.length:Int)):=by rw [←goodP_enc];exact hZ0 goodP goodP_formed
theorem goodB_good:Good goodB:=by rw [←goodP_enc];exact encP_good goodP goodP_formed
theorem good_bytes:aZE goodB=.ok (goodP,1):=cZI goodB_dec (by unfold aZt;exact good_audit)
theorem C66_2 (W:World) (g t:Nat) (x y:S66) (h:W.heap[g]?=some (.cells #[.int .i64 x.f0,.int .i64 x.f1,.int .i64 x.f2,.int .i64 x.f3,.int .i64 y.f0,.int .i64 y.f1,.int .i64 y.f2,.int .i64 y.f3] t (0,0))):Kd.C k66 W (some ⟨g,0,none⟩) 2 [x,y]:=by
 refine ⟨rfl,by decide,fun _=>⟨⟨g,0,none⟩,rfl,fun j p hj=>?_⟩⟩
 rcases j with _ | _|j
 ·
  obtain rfl:x=p:=by simpa using hj
  refine ⟨_,rfl,dZM _ _,fun i u hu=>?_⟩
  rcases i with _ | _ | _ | _|i <;> simp_all [World.cell?,Addr.add,k66,Kd.iso,Kd.pair,Kd.int,Kd.scalar]
 ·
  obtain rfl:y=p:=by simpa using hj
  refine ⟨_,rfl,dZM _ _,fun i u hu=>?_⟩
  rcases i with _ | _ | _ | _|i <;> simp_all [World.cell?,Addr.add,k66,Kd.iso,Kd.pair,Kd.int,Kd.scalar]
 · simp at hj
theorem C66_4 (W:World) (g t:Nat) (x y z u:S66) (h:W.heap[g]?=some (.cells #[.int .i64 x.f0,.int .i64 x.f1,.int .i64 x.f2,.int .i64 x.f3,.int .i64 y.f0,.int .i64 y.f1,.int .i64 y.f2,.int .i64 y.f3,.int .i64 z.f0,.int .i64 z.f1,.int .i64 z.f2,.int .i64 z.f3,.int .i64 u.f0,.int .i64 u.f1,.int .i64 u.f2,.int .i64 u.f3] t (0,0))):Kd.C k66 W (some ⟨g,0,none⟩) 4 [x,y,z,u]:=by
 refine ⟨rfl,by decide,fun _=>⟨⟨g,0,none⟩,rfl,fun j p hj=>?_⟩⟩
 rcases j with _ | _ | _ | _|j
 ·
  obtain rfl:x=p:=by simpa using hj
  refine ⟨_,rfl,dZM _ _,fun i u hu=>?_⟩
  rcases i with _ | _ | _ | _|i <;> simp_all [World.cell?,Addr.add,k66,Kd.iso,Kd.pair,Kd.int,Kd.scalar]
 ·
  obtain rfl:y=p:=by simpa using hj
  refine ⟨_,rfl,dZM _ _,fun i u hu=>?_⟩
  rcases i with _ | _ | _ | _|i <;> simp_all [World.cell?,Addr.add,k66,Kd.iso,Kd.pair,Kd.int,Kd.scalar]
 ·
  obtain rfl:z=p:=by simpa using hj
  refine ⟨_,rfl,dZM _ _,fun i u hu=>?_⟩
  rcases i with _ | _ | _ | _|i <;> simp_all [World.cell?,Addr.add,k66,Kd.iso,Kd.pair,Kd.int,Kd.scalar]
 ·
  obtain rfl:u=p:=by simpa using hj
  refine ⟨_,rfl,dZM _ _,fun i u hu=>?_⟩
  rcases i with _ | _ | _ | _|i <;> simp_all [World.cell?,Addr.add,k66,Kd.iso,Kd.pair,Kd.int,Kd.scalar]
 · simp at hj
abbrev lnk0:Value:=.agg #[.int .i64 0,.int .i64 0,.int .i64 0,.string ⟨#[]⟩,.int .i64 0,.int .i64 0,.int .i64 0,.string ⟨#[]⟩,.int .i64 0,.int .i64 0,.int .i64 0,.string ⟨#[]⟩,.int .i64 0,.int .i64 0,.int .i64 0,.string ⟨#[]⟩]
theorem eq39 (w:World):(Op.equalIn 9999 39 lnk0 lnk0).run Try.prog w=.ok true w:=by
  have h:=run_equalIn_deep (P:=Try.prog) 9995 4 39 (by kernel_rfl)
  obtain ⟨r,hr,hi⟩:=h w 10 10 lnk0 lnk0 [.int .i64 0,.int .i64 0,.int .i64 0,.string [],.int .i64 0,.int .i64 0,.int .i64 0,.string [],.int .i64 0,.int .i64 0,.int .i64 0,.string [],.int .i64 0,.int .i64 0,.int .i64 0,.string []] _ (by kernel_rfl) (by kernel_rfl) (by kernel_rfl) (by kernel_rfl)
  rw [hi.2 rfl] at hr
  exact hr
theorem aZm {W:World} {X t:Nat} {a b c d e f g:Value} (h:W.heap[X]?=some (.cells #[a,b,c,d,e,f,g] t (0,0))):W.cell? ⟨X,0,none⟩=some a∧W.cell? ⟨X,1,none⟩=some b∧W.cell? ⟨X,2,none⟩=some c∧W.cell? ⟨X,3,none⟩=some d∧W.cell? ⟨X,4,none⟩=some e∧W.cell? ⟨X,5,none⟩=some f∧W.cell? ⟨X,6,none⟩=some g:=by
  simp [World.cell?,h]
theorem cells2 {W:World} {X t:Nat} {a b:Value} (h:W.heap[X]?=some (.cells #[a,b] t (0,0))):W.cell? ⟨X,0,none⟩=some a∧W.cell? ⟨X,1,none⟩=some b:=by
  simp [World.cell?,h]
theorem C_ints {k:IntKind} {W:World} {g t:Nat} {xs:List Int} (h:W.heap[g]?=some (.cells (xs.map (Value.int k)).toArray t (0,0))) (hl:xs.length≤9223372036854775807):Kd.C (Kd.int k) W (some ⟨g,0,none⟩) xs.length xs:=by
 refine ⟨rfl,hl,fun _=>⟨⟨g,0,none⟩,rfl,fun j p hj=>⟨[.int k p],rfl,rfl,fun i u hu=>?_⟩⟩⟩
 rcases i with _|i
 ·
  have hu':Value.int k p=u:=by simpa using hu
  subst hu'
  have hz:(Kd.int k).sz=1:=rfl
  have ha:((⟨g,0,none⟩:Addr).add (j*(Kd.int k).sz+0))=⟨g,j,none⟩:=by rw [hz];unfold Addr.add;split <;> simp_all
  rw [ha]
  simp [World.cell?,h,hj]
 · simp at hu
theorem told_get {w:World} {base:Nat} {ok:Nat→Prop} {tv:Value} (h:told2.R 51 w base ok tv [[],[1]]) :
    ∃ ad c A0 c0 a1 c1,tv=.slice (some ad) 2 c∧w.cell? ad=some (.slice A0 0 c0)∧w.cell? ⟨ad.block,ad.off+1,none⟩=some (.slice (some a1) 1 c1)∧w.cell? a1=some (.int .i64 1)∧2≤c∧1≤c1:=by
  obtain ⟨A,c,rfl,hc,hC⟩:=Kd.R_reads h
  obtain ⟨ad,cs,rfl,-,⟨A0,c0,rfl,-,-⟩,h0⟩:=Kd.C_get hC [] 0 (by decide) (by decide)
  obtain ⟨ad2,cs,he,-,⟨A1,c1,rfl,l1,hC1⟩,h1⟩:=Kd.C_get hC [] 1 (by decide) (by decide)
  injection he with he
  subst he
  obtain ⟨a1,cs,rfl,-,hk,h2⟩:=Kd.C_get hC1 0 0 (by decide) (by decide)
  obtain rfl:cs=[.int .i64 1]:=hk
  have u0:=h0 0 _ rfl
  have u2:=h2 0 _ rfl
  rw [show (0:Int).toNat*told2.sz+0=0 from rfl] at u0
  rw [show (0:Int).toNat*(Kd.int .i64).sz+0=0 from rfl] at u2
  simp only [go_sem] at u0 u2
  exact ⟨ad,c,A0,c0,a1,c1,rfl,u0,h1 0 _ rfl,u2,hc,l1⟩
theorem wakes_any (w:World):Calls Try.prog 10 #[] w fun e w'=>e=.returned (.bool true)∧Below w.heap.size w w':=by
 go_enter Try.func10,Try.ntmps10
 go_upto_region 2 with (fail)
 have c1:Kd.C k66 ((w.alloc (.cells #[.int .i64 2,.int .i64 0,.int .i64 0,.int .i64 0,.int .i64 36,.int .i64 0,.int .i64 0,.int .i64 0] 66)).alloc (.cells #[.slice none 0 0,.slice none 0 0,.slice none 0 0,.slice none 0 0,.slice (some ⟨w.heap.size,0,none⟩) 2 2,.int .i64 1,.int .i64 0] 28)) (some ⟨w.heap.size,0,none⟩) 2 goodC :=
  C66_2 _ _ 66 ⟨2,0,0,0⟩ ⟨36,0,0,0⟩ (by rw [heap_alloc_old _ _ (by simp)];exact heap_alloc_new w _)
 have p1:=heap_alloc_new (w.alloc (.cells #[.int .i64 2,.int .i64 0,.int .i64 0,.int .i64 0,.int .i64 36,.int .i64 0,.int .i64 0,.int .i64 0] 66)) (.cells #[.slice none 0 0,.slice none 0 0,.slice none 0 0,.slice none 0 0,.slice (some ⟨w.heap.size,0,none⟩) 2 2,.int .i64 1,.int .i64 0] 28)
 rw [World.size_alloc] at p1
 have hb:Below w.heap.size w ((w.alloc (.cells #[.int .i64 2,.int .i64 0,.int .i64 0,.int .i64 0,.int .i64 36,.int .i64 0,.int .i64 0,.int .i64 0] 66)).alloc (.cells #[.slice none 0 0,.slice none 0 0,.slice none 0 0,.slice none 0 0,.slice (some ⟨w.heap.size,0,none⟩) 2 2,.int .i64 1,.int .i64 0] 28)):=aZa (aZa (Below.refl _ _) _) _
 have HB:=hid_ hb
 clear hb
 generalize (w.alloc (.cells #[.int .i64 2,.int .i64 0,.int .i64 0,.int .i64 0,.int .i64 36,.int .i64 0,.int .i64 0,.int .i64 0] 66)).alloc (.cells #[.slice none 0 0,.slice none 0 0,.slice none 0 0,.slice none 0 0,.slice (some ⟨w.heap.size,0,none⟩) 2 2,.int .i64 1,.int .i64 0] 28)=W1 at c1 p1 HB ⊢
 generalize w.heap.size+1=X1 at p1 ⊢
 generalize (⟨w.heap.size,0,none⟩:Addr)=A1 at c1 p1 ⊢
 go_upto_region 3 with (fail)
 have bel:=aZa (aZa (Below.refl W1.heap.size W1) (.cells #[.int .i64 2,.int .i64 0,.int .i64 0,.int .i64 0,.int .i64 33,.int .i64 3,.int .i64 0,.int .i64 0,.int .i64 2,.int .i64 0,.int .i64 0,.int .i64 0,.int .i64 36,.int .i64 0,.int .i64 0,.int .i64 0] 66)) (.cells #[.slice none 0 0,.slice none 0 0,.slice none 0 0,.slice none 0 0,.slice (some ⟨W1.heap.size,0,none⟩) 4 4,.int .i64 2,.int .i64 0] 28)
 have c2:Kd.C k66 ((W1.alloc (.cells #[.int .i64 2,.int .i64 0,.int .i64 0,.int .i64 0,.int .i64 33,.int .i64 3,.int .i64 0,.int .i64 0,.int .i64 2,.int .i64 0,.int .i64 0,.int .i64 0,.int .i64 36,.int .i64 0,.int .i64 0,.int .i64 0] 66)).alloc (.cells #[.slice none 0 0,.slice none 0 0,.slice none 0 0,.slice none 0 0,.slice (some ⟨W1.heap.size,0,none⟩) 4 4,.int .i64 2,.int .i64 0] 28)) (some ⟨W1.heap.size,0,none⟩) 4 badC :=
  C66_4 _ _ 66 ⟨2,0,0,0⟩ ⟨33,3,0,0⟩ ⟨2,0,0,0⟩ ⟨36,0,0,0⟩ (by rw [heap_alloc_old _ _ (by simp)];exact heap_alloc_new W1 _)
 have p2:=heap_alloc_new (W1.alloc (.cells #[.int .i64 2,.int .i64 0,.int .i64 0,.int .i64 0,.int .i64 33,.int .i64 3,.int .i64 0,.int .i64 0,.int .i64 2,.int .i64 0,.int .i64 0,.int .i64 0,.int .i64 36,.int .i64 0,.int .i64 0,.int .i64 0] 66)) (.cells #[.slice none 0 0,.slice none 0 0,.slice none 0 0,.slice none 0 0,.slice (some ⟨W1.heap.size,0,none⟩) 4 4,.int .i64 2,.int .i64 0] 28)
 rw [World.size_alloc] at p2
 have q1:=(bel.block _ (aZd p1)).trans p1
 have d1:=Kd.C_below c1 bel
 have HB2:=hid_ (HB.out.trans (bel.mono HB.out.size))
 clear c1 p1 HB bel
 generalize (W1.alloc (.cells #[.int .i64 2,.int .i64 0,.int .i64 0,.int .i64 0,.int .i64 33,.int .i64 3,.int .i64 0,.int .i64 0,.int .i64 2,.int .i64 0,.int .i64 0,.int .i64 0,.int .i64 36,.int .i64 0,.int .i64 0,.int .i64 0] 66)).alloc (.cells #[.slice none 0 0,.slice none 0 0,.slice none 0 0,.slice none 0 0,.slice (some ⟨W1.heap.size,0,none⟩) 4 4,.int .i64 2,.int .i64 0] 28)=W2 at c2 p2 q1 d1 HB2 ⊢
 generalize W1.heap.size+1=X2 at p2 ⊢
 generalize (⟨W1.heap.size,0,none⟩:Addr)=A2 at c2 p2 ⊢
 obtain ⟨x0,x1,x2,x3,x4,x5,x6⟩:=aZm q1
 go_wp2_with (fail)
 clear x0 x1 x2 x3 x4 x5 x6
 refine (show Calls _ _ _ _ _ from eZo W2 none none none none (some A1) 0 0 0 0 2 0 0 0 0 goodC 1 0 d1 (by decide) (by decide) (by decide) (by decide) (by decide) (by decide)).mono ?_
 intro e W3 he
 rw [good_audit] at he
 change hZl W2 2 _ e W3 at he
 obtain ⟨rfl,bel⟩:=he
 have q1':=(bel.block _ (aZd q1)).trans q1
 have q2:=(bel.block _ (aZd p2)).trans p2
 have d1':=Kd.C_below d1 bel
 have d2:=Kd.C_below c2 bel
 have HB3:=hid_ (HB2.out.trans (bel.mono HB2.out.size))
 clear c2 p2 q1 d1 HB2 bel
 go_upto_region 4 with (fail)
 have bel:=aZa (Below.refl W3.heap.size W3) (.cells #[.int .i64 1,.int .i64 2] 31)
 have s3:=heap_alloc_new W3 (.cells #[.int .i64 1,.int .i64 2] 31)
 have q1:=(bel.block _ (aZd q1')).trans q1'
 have p2:=(bel.block _ (aZd q2)).trans q2
 have d1:=Kd.C_below d1' bel
 have c2:=Kd.C_below d2 bel
 have HB4:=hid_ (HB3.out.trans (bel.mono HB3.out.size))
 clear q1' q2 d1' d2 HB3 bel
 generalize W3.alloc (.cells #[.int .i64 1,.int .i64 2] 31)=W4 at s3 q1 p2 d1 c2 HB4 ⊢
 generalize W3.heap.size=X3 at s3 ⊢
 obtain ⟨x0,x1,x2,x3,x4,x5,x6⟩:=aZm p2
 go_wp2_with (fail)
 clear x0 x1 x2 x3 x4 x5 x6
 refine (show Calls _ _ _ _ _ from eZo W4 none none none none (some A2) 0 0 0 0 4 0 0 0 0 badC 2 0 c2 (by decide) (by decide) (by decide) (by decide) (by decide) (by decide)).mono ?_
 intro e W5 he
 rw [bad_audit] at he
 obtain ⟨F,rfl,-,hF,bel⟩:=he
 have s5:=(bel.block _ (aZd s3)).trans s3
 have q5:=(bel.block _ (aZd q1)).trans q1
 have d5:=Kd.C_below d1 bel
 have HB5:=hid_ (HB4.out.trans (bel.mono HB4.out.size))
 clear s3 q1 p2 d1 c2 HB4 bel
 go_upto_region 5 with (fail)
 have bel:=aZa (Below.refl W5.heap.size W5) (.cells #[.int .i64 0,.int .i64 0] 31)
 have f6:=(bel.block _ (aZd hF)).trans hF
 have s6:=(bel.block _ (aZd s5)).trans s5
 have q6:=(bel.block _ (aZd q5)).trans q5
 have d6:=Kd.C_below d5 bel
 have HB6:=hid_ (HB5.out.trans (bel.mono HB5.out.size))
 clear hF s5 q5 d5 HB5 bel
 generalize W5.alloc (.cells #[.int .i64 0,.int .i64 0] 31)=W6 at f6 s6 q6 d6 HB6 ⊢
 generalize W5.heap.size=X5
 go_upto_region 6 with (fail)
 have bel:=aZa (Below.refl W6.heap.size W6) (.cells #[.int .u8 66,.int .u8 82,.int .u8 84,.int .u8 1,.int .u8 1,.int .u8 0,.int .u8 0,.int .u8 0,.int .u8 0,.int .u8 0,.int .u8 2,.int .u8 2,.int .u8 0,.int .u8 36] 5)
 have c7:Kd.C (Kd.int .u8) (W6.alloc (.cells #[.int .u8 66,.int .u8 82,.int .u8 84,.int .u8 1,.int .u8 1,.int .u8 0,.int .u8 0,.int .u8 0,.int .u8 0,.int .u8 0,.int .u8 2,.int .u8 2,.int .u8 0,.int .u8 36] 5)) (some ⟨W6.heap.size,0,none⟩) goodB.length goodB:=C_ints (t:=5) (heap_alloc_new W6 _) (by decide)
 have f7:=(bel.block _ (aZd f6)).trans f6
 have s7:=(bel.block _ (aZd s6)).trans s6
 have q7:=(bel.block _ (aZd q6)).trans q6
 have d7:=Kd.C_below d6 bel
 have HB7:=hid_ (HB6.out.trans (bel.mono HB6.out.size))
 clear f6 s6 q6 d6 HB6 bel
 generalize W6.alloc (.cells #[.int .u8 66,.int .u8 82,.int .u8 84,.int .u8 1,.int .u8 1,.int .u8 0,.int .u8 0,.int .u8 0,.int .u8 0,.int .u8 0,.int .u8 2,.int .u8 2,.int .u8 0,.int .u8 36] 5)=W7 at f7 s7 q7 d7 c7 HB7 ⊢
 generalize (⟨W6.heap.size,0,none⟩:Addr)=A7 at c7 ⊢
 refine (show Calls _ _ _ _ _ from gZJ W7 (some A7) 14 goodB c7 (by decide) goodB_good).mono ?_
 intro e W8 he
 rw [good_bytes] at he
 obtain ⟨v,rfl,hp,bel⟩:∃ v,e=.returned (.tuple #[v,.agg #[.int .i64 1,.int .i64 2],.nilIface])∧IsPg W7.heap.size goodP v W8∧Below W7.heap.size W7 W8:=he
 obtain ⟨B0,B1,B2,B3,B4,e0,e1,e2,e3,e4,rfl,-⟩:=hp.read
 have f8:=(bel.block _ (aZd f7)).trans f7
 have s8:=(bel.block _ (aZd s7)).trans s7
 have q8:=(bel.block _ (aZd q7)).trans q7
 have d8:=Kd.C_below d7 bel
 have HB8:=hid_ (HB7.out.trans (bel.mono HB7.out.size))
 clear f7 s7 q7 d7 c7 HB7 bel hp
 rw [show aZ6 B0 B1 B2 B3 B4 e0 e1 e2 e3 e4 goodP=.agg #[.slice B0 0 e0,.slice B1 0 e1,.slice B2 0 e2,.slice B3 0 e3,.slice B4 2 e4,.int .i64 1,.int .i64 0] from rfl]
 go_upto_region 6 with (fail)
 have bel:=aZa (aZa (Below.refl W8.heap.size W8) (.cells #[.slice B0 0 e0,.slice B1 0 e1,.slice B2 0 e2,.slice B3 0 e3,.slice B4 2 e4,.int .i64 1,.int .i64 0] 28)) (.cells #[.int .i64 1,.int .i64 2] 31)
 have b9:=heap_alloc_new W8 (.cells #[.slice B0 0 e0,.slice B1 0 e1,.slice B2 0 e2,.slice B3 0 e3,.slice B4 2 e4,.int .i64 1,.int .i64 0] 28)
 have b9:=(heap_alloc_old _ (.cells #[.int .i64 1,.int .i64 2] 31) (aZd b9)).trans b9
 have t9:=heap_alloc_new (W8.alloc (.cells #[.slice B0 0 e0,.slice B1 0 e1,.slice B2 0 e2,.slice B3 0 e3,.slice B4 2 e4,.int .i64 1,.int .i64 0] 28)) (.cells #[.int .i64 1,.int .i64 2] 31)
 rw [World.size_alloc] at t9
 have f9:=(bel.block _ (aZd f8)).trans f8
 have s9:=(bel.block _ (aZd s8)).trans s8
 have q9:=(bel.block _ (aZd q8)).trans q8
 have d9:=Kd.C_below d8 bel
 have HB9:=hid_ (HB8.out.trans (bel.mono HB8.out.size))
 clear f8 s8 q8 d8 HB8 bel
 generalize (W8.alloc (.cells #[.slice B0 0 e0,.slice B1 0 e1,.slice B2 0 e2,.slice B3 0 e3,.slice B4 2 e4,.int .i64 1,.int .i64 0] 28)).alloc (.cells #[.int .i64 1,.int .i64 2] 31)=W9 at b9 t9 f9 s9 q9 d9 HB9 ⊢
 generalize W8.heap.size+1=Y9 at t9 ⊢
 generalize W8.heap.size=X9 at b9 ⊢
 obtain ⟨x0,x1,x2,x3,x4,x5,x6⟩:=aZm q9
 go_wp2_with (fail)
 clear x0 x1 x2 x3 x4 x5 x6
 refine (show Calls _ _ _ _ _ from fZc W9 none none none none (some A1) 0 0 0 0 2 0 0 0 0 goodC 1 0 d9 (by decide) (by decide) (by decide) (by decide) (by decide) (by decide)).mono ?_
 intro e W10 he
 rw [good_audit] at he
 obtain ⟨tv,rfl,ht,bel⟩:=he
 obtain ⟨ad,c,A0,c0,a1,c1,rfl,y0,y1,y2,z0,z1⟩:=told_get (Kd.S_R ht)
 have b10:=(bel.block _ (aZd b9)).trans b9
 have t10:=(bel.block _ (aZd t9)).trans t9
 have f10:=(bel.block _ (aZd f9)).trans f9
 have s10:=(bel.block _ (aZd s9)).trans s9
 have HB10:=hid_ (HB9.out.trans (bel.mono HB9.out.size))
 clear b9 t9 f9 s9 q9 d9 HB9 bel ht
 obtain ⟨x0,x1,x2,x3,x4,x5,x6⟩:=aZm b10
 obtain ⟨x7,x8⟩:=cells2 t10
 obtain ⟨x9,x10⟩:=cells2 s10
 go_wp2_with (fail)
 clear x0 x1 x2 x3 x4 x5 x6 x7 x8 y0 y1 y2 z0 z1
 refine (show Calls _ _ _ _ _ from fZh W10 F 218 3 (by decide) f10).mono ?_
 rintro e W11 ⟨rfl,bel⟩
 have e39:=eq39 W11
 go_wp2_with (fail)
 go_ret
 exact ⟨rfl,HB10.out.trans (bel.mono HB10.out.size)⟩
abbrev AR:=Except (Int × Int) (List (List Int) × Int)
def errR {α:Type}:Except (Int × Int) α→Option (Int × Int)
  | .error f=>some f
  | .ok _=>none
def mostR:AR→Int
  | .error _=>0
  | .ok (_,m)=>m
def eZy (len:Nat):AR→Int
  | .error _=>0
  | .ok _=>len
def toldR:AR→List (List Int)
  | .error _=>[]
  | .ok (t,_)=>t
def evIs (r:Option (Int × Int)) (ev:Value) (W:World):Prop :=
  match r with
  | none=>ev=.nilIface
  | some (i,n)=>∃ F,ev=.iface 95 (.pointer (some ⟨F,0,none⟩))∧W.heap[F]?=some (.cells #[.int .i64 n,.int .i64 i,.string ⟨#[]⟩,.nilIface] 98 (0,0))
theorem evIs.below {r:Option (Int × Int)} {ev:Value} {W W2:World} (h:evIs r ev W) (hb:Below W.heap.size W W2):evIs r ev W2:=by
  cases r with
  | none=>exact h
  | some f=>obtain ⟨F,h1,h2⟩:=h;exact ⟨F,h1,(hb.block _ (aZd h2)).trans h2⟩
def codeR:Option (Int × Int)→Int
  | none=>0
  | some (_,n)=>n
def atR:Option (Int × Int)→Int
  | none=>0
  | some (i,_)=>i
def Num (r:Option (Int × Int)):Prop:=∀ i n,r=some (i,n)→n≠0
theorem dZH (r:Option (Int × Int)) (ev:Value) (w:World) (h:evIs r ev w) (hn:Num r):Calls Try.prog 16 #[ev] w fun e w'=>e=.returned (rdV (codeR r) (atR r))∧Below w.heap.size w w':=by
  cases r with
  | none=>obtain rfl:=h;exact read_nil w
  | some f =>
    obtain ⟨i,n⟩:=f
    obtain ⟨F,rfl,hF⟩:=h
    exact fZh w F n i (hn i n rfl) hF
theorem stepF_num {dep:Int} {r:S165} {x:S66} {s:St} {e:Int} (h:aZ2 dep r x s=.error e):214≤e∧e≤219:=by
 unfold aZ2 at h
 split at h
 · injection h with h;omega
 split at h
 · injection h with h;omega
 split at h
 ·
  rename_i e2 hp
  injection h with h
  subst h
  unfold putF at hp
  split at hp
  · cases hp
  split at hp
  · cases hp
  split at hp
  ·
   split at hp
   · injection hp with hp;omega
   · cases hp
  · cases hp
 ·
  split at h
  · injection h with h;omega
  split at h
  · injection h with h;omega
  · cases h
theorem fZJ (k:Wk):∀ (d i:Nat) (s:St) (M:List (Int × St)) (told:List (List Int)) (most:Int) (p n:Int),runL k d i s M told most=.error (p,n)→n≠0
  | 0,i,s,M,told,most,p,n,h=>by cases h
  | d+1,i,s,M,told,most,p,n,h=>by
    rw [runL] at h
    split at h
    · rename_i hf
      injection h with h;injection h with h1 h2
      subst h2;exact hf
    split at h
    · injection h with h;injection h with h1 h2;omega
    split at h
    · rename_i e he
      injection h with h;injection h with h1 h2
      have:=stepF_num he
      omega
    · rename_i s2 he
      split at h
      · exact fZJ k d _ _ _ _ _ p n h
      split at h
      · cases h
      · exact fZJ k d _ _ _ _ _ p n h
theorem iZu {nT nN nS nM:Nat} {C:List S66} {dep loc:Int}:Num (errR (aZT nT nN nS nM C dep loc)):=by
 intro p n h
 by_cases hd:aZB nT nN nS nM C dep loc
 ·
  rw [dZm hd] at h
  injection h with h;injection h with h1 h2;omega
 ·
  rw [cZN hd] at h
  split at h
  · injection h with h;injection h with h1 h2;omega
  ·
   cases hr:runF (K0 nT nN nS nM C dep loc) with
   | ok x=>rw [hr] at h;cases h
   | error f =>
    rw [hr] at h
    injection h with h
    subst h
    exact fZJ _ _ _ _ _ _ _ _ _ hr
theorem cZM (g:Pg):Num (errR (aZt g)):=iZu
theorem eZd {bs:List Int} {k q:Int} (h:aZJ bs=.error (k,q)):k≠0:=by have:=gZV bs k q h;omega
theorem iZk (bs:List Int):Num (errR (aZE bs)):=by
  intro p n h
  cases hp:aZJ bs with
  | error f=>obtain ⟨k,q⟩:=f;rw [cZJ hp] at h;injection h with h;injection h with h1 h2;subst h2;exact eZd hp
  | ok gq =>
    obtain ⟨g,q⟩:=gq
    cases ha:aZt g with
    | error f=>rw [cZK hp ha] at h;have:=cZM g p n;rw [ha] at this;exact this h
    | ok tm=>obtain ⟨t,m⟩:=tm;rw [cZI hp ha] at h;cases h
theorem InPg.lens {w:World} {A0 A1 A2 A3 A4:Option Addr} {c0 c1 c2 c3 c4:Nat} {g:Pg} (f:Fits g):g.T.length≤140737488355328∧g.N.length≤140737488355328∧g.S.length≤140737488355328∧g.M.length≤140737488355328∧g.C.length≤140737488355328:=by
  obtain ⟨h1,h2,h3,h4,h5,h6,h7⟩:=f
  omega
section
variable (w:World) (A0 A1 A2 A3 A4:Option Addr) (c0 c1 c2 c3 c4:Nat) (g:Pg)
theorem prog_u (h:InPg w A0 A1 A2 A3 A4 c0 c1 c2 c3 c4 g) (f:Fits g) :
    Calls Try.prog 11 #[aZ6 A0 A1 A2 A3 A4 c0 c1 c2 c3 c4 g] w fun e w'=>∃ ev,e=.returned (.tuple #[.agg #[.int .i64 (mostR (aZt g)),.int .i64 (eZy g.C.length (aZt g))],ev])∧evIs (errR (aZt g)) ev w'∧Below w.heap.size w w':=by
  obtain ⟨l0,l1,l2,l3,l4⟩:=InPg.lens (w:=w) (A0:=A0) (A1:=A1) (A2:=A2) (A3:=A3) (A4:=A4) (c0:=c0) (c1:=c1) (c2:=c2) (c3:=c3) (c4:=c4) f
  refine (eZo w A0 A1 A2 A3 A4 c0 c1 c2 c3 c4 g.T.length g.N.length g.S.length g.M.length g.C g.dep g.loc h.C h.lC l0 l1 l2 l3 l4).mono ?_
  intro e w' he
  change hZl w g.C.length (aZt g) e w' at he
  cases hr:aZt g with
  | error x=>obtain ⟨i,n⟩:=x;rw [hr] at he;obtain ⟨F,rfl,-,hF,hb⟩:=he;exact ⟨_,rfl,⟨F,rfl,hF⟩,hb⟩
  | ok x=>obtain ⟨t,m⟩:=x;rw [hr] at he;obtain ⟨rfl,hb⟩:=he;exact ⟨_,rfl,rfl,hb⟩
theorem hZs (h:InPg w A0 A1 A2 A3 A4 c0 c1 c2 c3 c4 g) (f:Fits g) :
    Calls Try.prog 14 #[aZ6 A0 A1 A2 A3 A4 c0 c1 c2 c3 c4 g] w fun e w'=>∃ tv ev,e=.returned (.tuple #[tv,ev])∧Kd.S told2 51 w' w.heap.size (fun _=>True) tv (toldR (aZt g))∧evIs (errR (aZt g)) ev w'∧Below w.heap.size w w':=by
  obtain ⟨l0,l1,l2,l3,l4⟩:=InPg.lens (w:=w) (A0:=A0) (A1:=A1) (A2:=A2) (A3:=A3) (A4:=A4) (c0:=c0) (c1:=c1) (c2:=c2) (c3:=c3) (c4:=c4) f
  refine (fZc w A0 A1 A2 A3 A4 c0 c1 c2 c3 c4 g.T.length g.N.length g.S.length g.M.length g.C g.dep g.loc h.C h.lC l0 l1 l2 l3 l4).mono ?_
  intro e w' he
  change StkEnd w (aZt g) e w' at he
  cases hr:aZt g with
  | error x=>obtain ⟨i,n⟩:=x;rw [hr] at he;obtain ⟨F,rfl,-,hF,hb⟩:=he;exact ⟨_,_,rfl,Kd.S_nil _ _ _ _ _,⟨F,rfl,hF⟩,hb⟩
  | ok x=>obtain ⟨t,m⟩:=x;rw [hr] at he;obtain ⟨tv,rfl,ht,hb⟩:=he;exact ⟨_,_,rfl,ht,rfl,hb⟩
theorem fZD (h:InPg w A0 A1 A2 A3 A4 c0 c1 c2 c3 c4 g) (f:Fits g) :
    Calls Try.prog 14 #[aZ6 A0 A1 A2 A3 A4 c0 c1 c2 c3 c4 g] w fun e w'=>∃ tv ev,e=.returned (.tuple #[tv,ev])∧told2.R 51 w' w.heap.size (fun _=>True) tv (toldR (aZt g))∧evIs (errR (aZt g)) ev w'∧Below w.heap.size w w' :=
  (hZs w A0 A1 A2 A3 A4 c0 c1 c2 c3 c4 g h f).mono fun _ _ ⟨tv,ev,h1,h2,h3⟩=>⟨tv,ev,h1,Kd.S_R h2,h3⟩
end
def Pg0:Pg:=⟨[],[],[],[],[],0,0⟩
theorem isPg0 (base:Nat) (w:World):IsPg base Pg0 zPg w:=⟨_,_,_,_,_,rfl,Kd.R_nil _ _ _ _ _,Kd.R_nil _ _ _ _ _,Kd.R_nil _ _ _ _ _,Kd.R_nil _ _ _ _ _,Kd.R_nil _ _ _ _ _⟩
theorem fits0:Fits Pg0:=⟨by decide,by decide,by decide,by decide,by decide,fun x hx=>(by cases hx),fun x hx=>(by cases hx)⟩
abbrev BR:=Except (Int × Int) (Pg × Int)
def pgR:BR→Pg
  | .error _=>Pg0
  | .ok (g,_)=>g
def bmostR:BR→Int
  | .error _=>0
  | .ok (_,m)=>m
def bstepsR:BR→Int
  | .error _=>0
  | .ok (g,_)=>g.C.length
theorem fZ0 (w:World) (A:Option Addr) (c:Nat) (bs:List Int) (hC:Kd.C (Kd.int .u8) w A bs.length bs) (hc:bs.length≤c) (G:Good bs) :
    Calls Try.prog 18 #[.slice A bs.length c] w fun e w'=>∃ v ev,e=.returned (.tuple #[v,.agg #[.int .i64 (bmostR (aZE bs)),.int .i64 (bstepsR (aZE bs))],ev])∧IsPg w.heap.size (pgR (aZE bs)) v w'∧evIs (errR (aZE bs)) ev w'∧Below w.heap.size w w':=by
  refine (gZJ w A c bs hC hc G).mono ?_
  intro e w' he
  cases hr:aZE bs with
  | error x=>obtain ⟨i,n⟩:=x;rw [hr] at he;obtain ⟨F,rfl,-,hF,hb⟩:=he;exact ⟨_,_,rfl,isPg0 _ _,⟨F,rfl,hF⟩,hb⟩
  | ok x=>obtain ⟨g,m⟩:=x;rw [hr] at he;obtain ⟨v,rfl,hp,hb⟩:=he;exact ⟨_,_,rfl,hp,rfl,hb⟩
structure StL (w W:World) (X:Nat) (A0 A1 A2 A3 A4:Option Addr) (c0 c1 c2 c3 c4:Nat) (g:Pg):Prop where
  below:Below w.heap.size w W
  box:W.heap[X]?=some (.cells #[.slice A0 g.T.length c0,.slice A1 g.N.length c1,.slice A2 g.S.length c2,.slice A3 g.M.length c3,.slice A4 g.C.length c4,.int .i64 g.dep,.int .i64 g.loc] 28 (0,0))
  pg:InPg W A0 A1 A2 A3 A4 c0 c1 c2 c3 c4 g
theorem StL.next {w W W2:World} {X:Nat} {A0 A1 A2 A3 A4:Option Addr} {c0 c1 c2 c3 c4:Nat} {g:Pg} (h:StL w W X A0 A1 A2 A3 A4 c0 c1 c2 c3 c4 g) (hb:Below W.heap.size W W2):StL w W2 X A0 A1 A2 A3 A4 c0 c1 c2 c3 c4 g :=
  ⟨h.below.trans (hb.mono h.below.size),(hb.block _ (aZd h.box)).trans h.box,h.pg.below hb⟩
theorem StL.start (w:World) {A0 A1 A2 A3 A4:Option Addr} {c0 c1 c2 c3 c4:Nat} {g:Pg} (h:InPg w A0 A1 A2 A3 A4 c0 c1 c2 c3 c4 g):StL w (w.alloc (.cells #[.slice A0 g.T.length c0,.slice A1 g.N.length c1,.slice A2 g.S.length c2,.slice A3 g.M.length c3,.slice A4 g.C.length c4,.int .i64 g.dep,.int .i64 g.loc] 28)) w.heap.size A0 A1 A2 A3 A4 c0 c1 c2 c3 c4 g :=
  ⟨aZa (Below.refl _ _) _,heap_alloc_new _ _,h.below (aZa (Below.refl _ _) _)⟩
theorem aZ5 (W:World) (a b:Obj):((W.alloc a).alloc b).heap[W.heap.size]?=some a∧((W.alloc a).alloc b).heap[W.heap.size+1]?=some b∧Below W.heap.size W ((W.alloc a).alloc b):=by
  have h:=heap_alloc_new (W.alloc a) b
  rw [World.size_alloc] at h
  exact ⟨(heap_alloc_old _ _ (aZd (heap_alloc_new W a))).trans (heap_alloc_new W a),h,aZa (aZa (Below.refl _ _) _) _⟩
theorem hZ5 (W:World):(Kd.int .u8).R 5 (W.alloc (.cells #[] 5)) W.heap.size (fun k=>W.heap.size≤k) (.slice (some ⟨W.heap.size,0,none⟩) 0 0) []:=by
  have h:=World.ownsRow_lit (base:=W.heap.size) (e:=5) (size:=1) W #[] 0 (Nat.le_refl _) (by simp [maxLen]) (by simp)
  exact own_ints (xs:=[]) (by simpa using h) (fun k hk=>hk)
theorem aZc {W W2:World} {k:Nat} {o:Obj} (h:W.heap[k]?=some o) (hb:Below W.heap.size W W2):W2.heap[k]?=some o:=(hb.block _ (aZd h)).trans h
theorem rowsL_local:∀ i:_root_.Fin 37,((rowsL.getD i.1 z165).f2=⟨#[76]⟩→bt (rowsL.getD i.1 z165).f0 0=108)∧(i.1=31→bt (rowsL.getD i.1 z165).f0 0=108)∧(i.1=36→(rowsL.getD i.1 z165).f1.size=1):=by decide +kernel
theorem fZ9 (op:Int) (h0:1≤op) (h1:op≤36):((aZg rowsL op).f2=⟨#[76]⟩→bt (aZg rowsL op).f0 0=108)∧(op=31→bt (aZg rowsL op).f0 0=108)∧(op=36→(aZg rowsL op).f1.size=1):=by
  obtain ⟨h2,h3,h4⟩:=rowsL_local ⟨op.toNat,by omega⟩
  exact ⟨h2,fun h=>h3 (by show op.toNat=31;omega),fun h=>h4 (by show op.toNat=36;omega)⟩
def wide (k:Wk) (dep loc:Int):Wk:={ k with dep:=dep,loc:=loc }
def pad (z:Nat) (s:St):St:=⟨s.stk,s.loc++List.replicate z 0,s.joined⟩
def padM (z:Nat) (M:List (Int × St)):List (Int × St):=M.map fun x=>(x.1,pad z x.2)
theorem eZD {k:Wk} {dep loc:Int} (hl:k.loc≤loc) {l n:Int} (h:bZk k l n=true):bZk (wide k dep loc) l n=true:=by
  unfold bZk at h ⊢
  unfold wide
  dsimp only
  repeat' split
  all_goals (try (simp_all;done))
  all_goals simp_all <;> omega
theorem form_wide {k:Wk} {dep loc:Int} (hl:k.loc≤loc) {i:Nat} (h:bZi k i=0):bZi (wide k dep loc) i=0:=by
 unfold bZi at h ⊢
 have hC:(wide k dep loc).C=k.C:=rfl
 rw [hC]
 split at h
 · omega
 ·
  rename_i h1
  rw [if_neg h1]
  split at h
  · omega
  ·
   rename_i h2
   rw [if_neg]
   · exact h
   ·
    rintro (h3|h3|h3)
    · exact h2 (.inl (by cases hq:bZk k _ _ with|false=>rfl|true=>rw [eZD hl hq] at h3;cases h3))
    · exact h2 (.inr (.inl (by cases hq:bZk k _ _ with|false=>rfl|true=>rw [eZD hl hq] at h3;cases h3)))
    · exact h2 (.inr (.inr (by cases hq:bZk k _ _ with|false=>rfl|true=>rw [eZD hl hq] at h3;cases h3)))
theorem dZO {k:Wk} {i:Nat} (h:bZi k i=0):1≤(aZi k.C i).f0∧(aZi k.C i).f0≤36∧(bt (aZg rowsL (aZi k.C i).f0).f0 0=108→0≤(aZi k.C i).f1∧(aZi k.C i).f1<k.loc)∧((aZi k.C i).f0=36↔i+1=k.C.length):=by
 unfold bZi at h
 split at h
 · omega
 ·
  rename_i h1
  split at h
  · omega
  ·
   rename_i h2
   refine ⟨by omega,by omega,fun hb=>?_,?_⟩
   ·
    have h3:bZk k (bt (aZg rowsL (aZi k.C i).f0).f0 0) (aZi k.C i).f1=true:=by
     cases hq:bZk k _ _ with
     | true=>rfl
     | false=>exact absurd (.inl hq) h2
    rw [hb] at h3
    simpa [bZk] using h3
   ·
    unfold cZ1 at h
    split at h
    · omega
    ·
     split at h
     · assumption
     · omega
theorem fZm (z:Nat):∀ (a b:List Int),a.length=b.length→aZH (a++List.replicate z 0) (b++List.replicate z 0)=aZH a b++List.replicate z 0:=by
  intro a b h
  unfold aZH
  rw [List.zipWith_append h]
  congr 1
  induction z with
  | zero=>rfl
  | succ z ih=>rw [List.replicate_succ,List.zipWith_cons_cons,ih];simp
theorem fZx {M:List (Int × St)} {i:Int} {s:St} {z L:Nat} (hs:s.loc.length=L) (hM:∀ x∈M,x.2.loc.length=L):aZI (padM z M) i (pad z s)=pad z (aZI M i s)∧(aZI M i s).loc.length=L:=by
 have hl:look (padM z M) i=(look M i).map (pad z):=dZL (pad z) i M
 cases h:look M i with
 | none=>rw [h] at hl;rw [bZZ hl,bZZ h];exact ⟨rfl,hs⟩
 | some o =>
  rw [h] at hl
  have ho:o.loc.length=L:=hM _ (bZq i M o h)
  rw [bZB hl,bZB h]
  refine ⟨?_,?_⟩
  ·
   unfold aZF pad
   dsimp only
   rw [fZm z _ _ (by omega)]
  ·
   unfold aZF
   dsimp only
   rw [aZY _ _ (by omega)]
   exact ho
theorem fZw {M:List (Int × St)} {i:Int} {s:St} (h:(aZI M i s).joined=false):(aZI M i s).stk=s.stk:=by
  cases hl:look M i with
  | none=>rw [bZZ hl]
  | some o =>
    rw [bZB hl] at h ⊢
    unfold aZF at h ⊢
    simp at h
    exact h.2
theorem putF_pad {p:ByteArray} {x:S66} {stk loc:List Int} {f:Int} {z:Nat} {stk2 loc2:List Int} (h:putF p x stk loc f=.ok (stk2,loc2)) (h1:p=⟨#[76]⟩→x.f1.toNat<loc.length) (h2:x.f0=31→x.f1.toNat<loc.length) :
 putF p x stk (loc++List.replicate z 0) f=.ok (stk2,loc2++List.replicate z 0)∧loc2.length=loc.length:=by
 unfold putF at h ⊢
 split at h
 ·
  rename_i hp
  rw [if_pos hp]
  injection h with h;injection h with h3 h4
  subst h3;subst h4
  split
  ·
   rename_i ho
   exact ⟨by rw [List.set_append_left _ _ (h2 ho)],by simp⟩
  · exact ⟨rfl,rfl⟩
 ·
  rename_i hp
  rw [if_neg hp]
  split at h
  ·
   rename_i hp2
   rw [if_pos hp2]
   injection h with h;injection h with h3 h4
   subst h3;subst h4
   exact ⟨rfl,rfl⟩
  ·
   rename_i hp2
   rw [if_neg hp2]
   split at h
   ·
    rename_i hp3
    rw [if_pos hp3]
    have hg:(loc++List.replicate z 0).getD x.f1.toNat 0=loc.getD x.f1.toNat 0:=by
     simp only [List.getD_eq_getElem?_getD]
     rw [List.getElem?_append_left (h1 hp3)]
    rw [hg]
    split at h
    · cases h
    ·
     rename_i h0
     rw [if_neg h0]
     injection h with h;injection h with h3 h4
     subst h3;subst h4
     exact ⟨rfl,rfl⟩
   ·
    rename_i hp3
    rw [if_neg hp3]
    injection h with h;injection h with h3 h4
    subst h3;subst h4
    exact ⟨rfl,rfl⟩
theorem fZ5 {dep dep':Int} {r:S165} {x:S66} {s s2:St} {z:Nat} (h:aZ2 dep r x s=.ok s2) (h1:r.f2=⟨#[76]⟩→x.f1.toNat<s.loc.length) (h2:x.f0=31→x.f1.toNat<s.loc.length) :
 (s2.stk.length≤dep'→aZ2 dep' r x (pad z s)=.ok (pad z s2))∧(dep'<s2.stk.length→aZ2 dep' r x (pad z s)=.error 216)∧s2.stk.length≤dep∧s2.loc.length=s.loc.length∧(x.f0=36→s2.stk.length=0)∧r.f1.size≤s.stk.length:=by
 unfold aZ2 at h ⊢
 have hp:(pad z s).stk=s.stk:=rfl
 have hp2:(pad z s).loc=s.loc++List.replicate z 0:=rfl
 have hp3:(pad z s).joined=s.joined:=rfl
 rw [hp,hp2,hp3]
 split at h
 · cases h
 ·
  rename_i g1
  rw [if_neg g1]
  split at h
  · cases h
  ·
   rename_i g2
   rw [if_neg g2]
   split at h
   · cases h
   ·
    rename_i stk loc hput
    obtain ⟨q1,q2⟩:=putF_pad (z:=z) hput h1 h2
    rw [q1]
    split at h
    · cases h
    ·
     rename_i g3
     split at h
     · cases h
     ·
      rename_i g4
      injection h with h
      subst h
      dsimp only
      refine ⟨fun hd=>?_,fun hd=>?_,by omega,q2,fun h36=>?_,by omega⟩
      · rw [if_neg (by omega),if_neg g4];rfl
      · rw [if_pos hd]
      ·
       by_cases h0:0<stk.length
       · exact absurd ⟨h36,h0⟩ g4
       · omega
theorem gZZ {o s:St} {z:Nat} (h:o.loc.length=s.loc.length):aZF (pad z o) (pad z s)=pad z (aZF o s):=by
  unfold aZF pad
  dsimp only
  rw [fZm z _ _ h]
theorem fZX {M:List (Int × St)} {i:Int} {z:Nat}:del (padM z M) i=padM z (del M i):=fZY (pad z) i M
theorem hZD {M:List (Int × St)} {t:Int} {s:St} {z L:Nat} (hs:s.loc.length=L) (hM:∀ x∈M,x.2.loc.length=L):dZy (padM z M) t (pad z s)=padM z (dZy M t s)∧∀ x∈dZy M t s,x.2.loc.length=L:=by
 have hl:look (padM z M) t=(look M t).map (pad z):=dZL (pad z) t M
 unfold dZy
 rw [hl]
 cases h:look M t with
 | none =>
  dsimp only [Option.map]
  refine ⟨by unfold padM;rw [List.map_append];rfl,fun x hx=>?_⟩
  rcases List.mem_append.1 hx with hx|hx
  · exact hM x hx
  · rw [List.mem_singleton.1 hx];exact hs
 | some o =>
  dsimp only [Option.map]
  have ho:o.loc.length=L:=hM _ (bZq t M o h)
  rw [gZZ (by omega)]
  refine ⟨gZO (pad z) t (aZF o s) M,fun x hx=>?_⟩
  rcases dZ3 t _ M x hx with hx|rfl
  · exact hM x hx
  ·
   show (aZH o.loc s.loc).length=L
   rw [aZY _ _ (by omega)];exact ho
theorem hZu (k:Wk) (dep' loc':Int) (z:Nat) (h0:0≤dep') (hk:0≤k.loc) (hl:k.loc≤loc'):∀ (d i:Nat) (s:St) (M:List (Int × St)) (told:List (List Int)) (most:Int) (t:List (List Int)) (m:Int),
 i+d=k.C.length→s.loc.length=k.loc.toNat→(∀ x∈M,x.2.loc.length=k.loc.toNat)→runL k d i s M told most=.ok (t,m) →
 most≤m∧(0<d→(s.stk.length:Int)≤m∧1≤m)∧(most≤k.dep→(s.stk.length:Int)≤k.dep→m≤k.dep) ∧
 (m≤dep'→runL (wide k dep' loc') d i (pad z s) (padM z M) told most=.ok (t,m)) ∧
 (dep'<m→most≤dep'→(s.stk.length:Int)≤dep'→∃ p,runL (wide k dep' loc') d i (pad z s) (padM z M) told most=.error (p,216))
 | 0,i,s,M,told,most,t,m,hi,hs,hM,h=>by
  injection h with h;injection h with h1 h2
  subst h1;subst h2
  exact ⟨Int.le_refl _,fun h=>absurd h (Nat.lt_irrefl 0),fun h _=>h,fun _=>rfl,fun h1 h2 _=>by omega⟩
 | d+1,i,s,M,told,most,t,m,hi,hs,hM,h=>by
  rw [runL] at h ⊢
  have hC:(wide k dep' loc').C=k.C:=rfl
  have hD:(wide k dep' loc').dep=dep':=rfl
  rw [hC,hD]
  split at h
  · cases h
  rename_i g1
  have hf:bZi k i=0:=by
   by_cases hq:bZi k i=0
   · exact hq
   · exact absurd hq g1
  have hf':=form_wide (dep:=dep') hl hf
  obtain ⟨f1,f2,f3,f4⟩:=dZO hf
  obtain ⟨r1,r2,r3⟩:=fZ9 _ f1 f2
  rw [if_neg (by rw [hf'];exact fun h=>h rfl)]
  split at h
  · cases h
  rename_i g2
  obtain ⟨a1,a2⟩:=fZx (i:=(i:Int)) (z:=z) hs hM
  have hj:(aZI M i s).joined=false:=by simpa using g2
  have hst:=fZw hj
  rw [a1]
  have hpj:(pad z (aZI M i s)).joined=(aZI M i s).joined:=rfl
  have hps:(pad z (aZI M i s)).stk=(aZI M i s).stk:=rfl
  rw [hpj,hps,if_neg g2]
  split at h
  · cases h
  rename_i s2 hstep
  have hlt1:(aZg rowsL (aZi k.C i).f0).f2=⟨#[76]⟩→(aZi k.C i).f1.toNat<(aZI M i s).loc.length:=fun h=>by
   have:=f3 (r1 h);rw [a2];omega
  have hlt2:(aZi k.C i).f0=31→(aZi k.C i).f1.toNat<(aZI M i s).loc.length:=fun h=>by
   have:=f3 (r2 h);rw [a2];omega
  obtain ⟨w1,w2,w3,w4,w5,w6⟩:=fZ5 (dep':=dep') (z:=z) hstep hlt1 hlt2
  rw [hst] at h w6 ⊢
  have hM2:∀ x∈del M i,x.2.loc.length=k.loc.toNat:=fun x hx=>hM x (cZ8 _ _ _ hx)
  have hs2:s2.loc.length=k.loc.toNat:=by rw [w4,a2]
  by_cases h36:(aZi k.C i).f0=36
  ·
   have hn33:¬((aZi k.C i).f0=33∨(aZi k.C i).f0=34):=by omega
   rw [if_neg hn33,if_pos h36] at h
   injection h with h;injection h with h1 h2
   subst h1;subst h2
   have hlen:1≤s.stk.length:=by have:=r3 h36;omega
   have hz:=w5 h36
   refine ⟨by omega,fun _=>⟨by omega,by omega⟩,fun h1 h2=>by omega,fun hm=>?_,fun h1 h2 h3=>by omega⟩
   rw [w1 (by omega)]
   dsimp only
   rw [if_neg hn33,if_pos h36]
  ·
   have hd0:0<d:=by
    rcases Nat.eq_zero_or_pos d with h|h
    · exact absurd (f4.2 (by omega)) h36
    · exact h
   rw [if_neg h36] at h
   have key:∀ M2:List (Int × St),(∀ x∈M2,x.2.loc.length=k.loc.toNat)→runL k d (i+1) s2 M2 (told++[s.stk]) (max most s.stk.length)=.ok (t,m) →
    most≤m∧(0<d+1→(s.stk.length:Int)≤m∧1≤m)∧(most≤k.dep→(s.stk.length:Int)≤k.dep→m≤k.dep)∧(m≤dep'→aZ2 dep' (aZg rowsL (aZi k.C i).f0) (aZi k.C i) (pad z (aZI M i s))=.ok (pad z s2)∧runL (wide k dep' loc') d (i+1) (pad z s2) (padM z M2) (told++[s.stk]) (max most s.stk.length)=.ok (t,m)) ∧
    (dep'<m→most≤dep'→(s.stk.length:Int)≤dep'→aZ2 dep' (aZg rowsL (aZi k.C i).f0) (aZi k.C i) (pad z (aZI M i s))=.error 216∨(aZ2 dep' (aZg rowsL (aZi k.C i).f0) (aZi k.C i) (pad z (aZI M i s))=.ok (pad z s2)∧∃ p,runL (wide k dep' loc') d (i+1) (pad z s2) (padM z M2) (told++[s.stk]) (max most s.stk.length)=.error (p,216))):=by
    intro M2 hM2' hr
    obtain ⟨b1,b2,b3,b4,b5⟩:=hZu k dep' loc' z h0 hk hl d (i+1) s2 M2 _ _ t m (by omega) hs2 hM2' hr
    obtain ⟨b6,b7⟩:=b2 hd0
    refine ⟨by omega,fun _=>⟨by omega,b7⟩,fun h1 h2=>b3 (by omega) w3,fun hm=>⟨w1 (by omega),b4 hm⟩,fun h1 h2 h3=>?_⟩
    by_cases hle:(s2.stk.length:Int)≤dep'
    · exact .inr ⟨w1 hle,b5 h1 (by omega) hle⟩
    · exact .inl (w2 (by omega))
   by_cases h33:(aZi k.C i).f0=33∨(aZi k.C i).f0=34
   ·
    rw [if_pos h33] at h
    obtain ⟨l1,l2⟩:=hZD (t:=(aZi k.C i).f1) (z:=z) hs2 hM2
    obtain ⟨c1,c2,c3,c4,c5⟩:=key _ l2 h
    refine ⟨c1,c2,c3,fun hm=>?_,fun h1 h2 h3=>?_⟩
    ·
     obtain ⟨e1,e2⟩:=c4 hm
     rw [e1];dsimp only
     rw [if_pos h33,fZX,l1];exact e2
    ·
     rcases c5 h1 h2 h3 with e1 | ⟨e1,e2⟩
     · rw [e1];exact ⟨_,rfl⟩
     ·
      rw [e1];dsimp only
      rw [if_pos h33,fZX,l1];exact e2
   ·
    rw [if_neg h33] at h
    obtain ⟨c1,c2,c3,c4,c5⟩:=key _ hM2 h
    refine ⟨c1,c2,c3,fun hm=>?_,fun h1 h2 h3=>?_⟩
    ·
     obtain ⟨e1,e2⟩:=c4 hm
     rw [e1];dsimp only
     rw [if_neg h33,if_neg h36,fZX];exact e2
    ·
     rcases c5 h1 h2 h3 with e1 | ⟨e1,e2⟩
     · rw [e1];exact ⟨_,rfl⟩
     ·
      rw [e1];dsimp only
      rw [if_neg h33,if_neg h36,fZX];exact e2
theorem iZr {nT nN nS nM:Nat} {C:List S66} {dep loc:Int} {t:List (List Int)} {m:Int} (h:aZT nT nN nS nM C dep loc=.ok (t,m)) (dep' loc':Int) (hl:loc≤loc') (hl2:loc'≤1024) (h0:0≤dep') (h1:dep'≤128) :
 1≤m∧m≤dep∧(m≤dep'→aZT nT nN nS nM C dep' loc'=.ok (t,m))∧(dep'<m→∃ p,aZT nT nN nS nM C dep' loc'=.error (p,216)):=by
 by_cases hD:aZB nT nN nS nM C dep loc
 · rw [dZm hD] at h;cases h
 rw [cZN hD] at h
 split at h
 · cases h
 rename_i hc
 have hD':¬aZB nT nN nS nM C dep' loc':=by unfold aZB at hD ⊢;omega
 rw [cZN hD',if_neg hc]
 unfold aZB at hD
 unfold runF at h ⊢
 have hz:loc.toNat+(loc'.toNat - loc.toNat)=loc'.toNat:=by omega
 obtain ⟨b1,b2,b3,b4,b5⟩:=hZu (K0 nT nN nS nM C dep loc) dep' loc' (loc'.toNat - loc.toNat) h0 (by show 0≤loc;omega) hl _ 0 ⟨[],List.replicate loc.toNat 0,false⟩ [] [] 0 t m (Nat.zero_add _) (by simp [K0]) (fun x hx=>by cases hx) h
 have hp:pad (loc'.toNat - loc.toNat) ⟨[],List.replicate loc.toNat 0,false⟩=⟨[],List.replicate loc'.toNat 0,false⟩:=by
  unfold pad
  rw [List.replicate_append_replicate,hz]
 rw [hp] at b4 b5
 have hpos:0<(K0 nT nN nS nM C dep loc).C.length:=by show 0<C.length;omega
 obtain ⟨b6,b7⟩:=b2 hpos
 have hdep:0≤dep:=by omega
 exact ⟨b7,b3 hdep hdep,b4,fun hm=>b5 hm h0 h0⟩
theorem set_far {W:World} {k:Nat} {o:Obj} {a:Addr} {v:Value} (h:W.heap[k]?=some o) (hk:k≠a.block):(W.setCell a v).heap[k]?=some o:=(Below.heap_setCell W a v k hk).trans h
theorem cZv {W:World} {b j:Nat} {c:Array Value} {t:Nat} (h:W.heap[b]?=some (.cells c t (0,0))) (hj:j<c.size):W.cell? ⟨b,j,none⟩=some c[j]:=by simp [World.cell?,h,hj]
structure Wz (base:Nat) (ob:Option Nat) (w w':World):Prop where
  os:w'.os=w.os
  tape:w'.tape=w.tape
  output:w'.output=w.output
  size:w.heap.size≤w'.heap.size
  block:∀ k:Nat,k<base→some k≠ob→w'.heap[k]?=w.heap[k]?
  row:∀ (k:Nat) (cells:Array Value) (t:Nat),w.heap[k]?=some (.cells cells t (0,0))→∃ cells':Array Value,w'.heap[k]?=some (.cells cells' t (0,0))∧cells'.size=cells.size
theorem Wz.refl (base:Nat) (ob:Option Nat) (w:World):Wz base ob w w:=⟨rfl,rfl,rfl,Nat.le_refl _,fun _ _ _=>rfl,fun _ cells _ h=>⟨cells,h,rfl⟩⟩
theorem Wz.trans {base:Nat} {ob:Option Nat} {w w1 w2:World} (h:Wz base ob w w1) (g:Wz base ob w1 w2):Wz base ob w w2 :=
  ⟨g.os.trans h.os, g.tape.trans h.tape, g.output.trans h.output, Nat.le_trans h.size g.size, fun k hk hn => (g.block k hk hn).trans (h.block k hk hn), fun k cells t hk => by
    obtain ⟨c1,a1,a2⟩:=h.row k cells t hk
    obtain ⟨c2,b1,b2⟩:=g.row k c1 t a1
    exact ⟨c2,b1,by omega⟩⟩
theorem Wz.grown {base:Nat} {ob:Option Nat} {w w':World} (h:w.grownBy w' none) (hb:base≤w.heap.size):Wz base ob w w' :=
  ⟨h.os,h.tape,h.output,h.size,fun k hk _=>h.block k (Nat.lt_of_lt_of_le hk hb) (by simp),fun k cells t hk=>⟨cells,(h.block k (aZd hk) (by simp)).trans hk,rfl⟩⟩
theorem Wz.below {base:Nat} {ob:Option Nat} {w w':World} (h:Below w.heap.size w w') (hb:base≤w.heap.size):Wz base ob w w' :=
  ⟨h.os,h.tape,h.output,h.size,fun k hk _=>h.block k (Nat.lt_of_lt_of_le hk hb),fun k cells t hk=>⟨cells,(h.block k (aZd hk)).trans hk,rfl⟩⟩
theorem Wz.set {base b i t:Nat} {ob:Option Nat} {w:World} {cur:Array Value} (h:w.heap[b]?=some (.cells cur t (0,0))) (hb:some b=ob∨base≤b) (v:Value):Wz base ob w (w.setCell ⟨b,i,none⟩ v):=by
 have hs:=setCell_eq_setRow w b i cur t (0,0) v h
 have hr:(w.setCell ⟨b,i,none⟩ v).heap[b]?=some (.cells (cur.setIfInBounds i v) t (0,0)):=by rw [hs];exact setRow_heap _ _ _ _ _ _ h
 refine ⟨by rw [hs];rfl,by rw [hs];rfl,by rw [hs];rfl,by rw [hs];simp [World.setRow],fun k hk hn=>?_,fun k cells s hk=>?_⟩
 ·
  exact Below.heap_setCell w ⟨b, i, none⟩ v k (fun e => by
   have e:k=b:=e
   subst e
   rcases hb with hb|hb
   · exact hn hb
   · omega)
 ·
  by_cases hkb:k=b
  ·
   subst hkb
   rw [h] at hk
   injection hk with hk
   injection hk with h1 h2
   subst h1;subst h2
   exact ⟨_,hr,by simp⟩
  · exact ⟨cells,set_far hk hkb,rfl⟩
theorem Wz.sets {base b t:Nat} {ob:Option Nat} (hb:some b=ob∨base≤b):∀ (vs:List Value) (i:Nat) (w:World) (cur:Array Value),w.heap[b]?=some (.cells cur t (0,0))→Wz base ob w (w.setCells b i vs)
  | [],_,w,_,_=>Wz.refl _ _ w
  | v :: vs,i,w,cur,h=>by
    have h1:=Wz.set (i:=i) h hb v
    obtain ⟨c1,g1,-⟩:=h1.row b cur t h
    exact h1.trans (Wz.sets hb vs (i+1) _ c1 g1)
def rowL (base:Nat) (ob:Option Nat) (w:World) (v:Value) (t size n:Nat):Prop :=
  (v=.slice none 0 0∧n=0)∨∃ b c,∃ cur:Array Value,v=.slice (some ⟨b,0,none⟩) n c∧(some b=ob∨base≤b)∧w.heap[b]?=some (.cells cur t (0,0))∧n≤c∧c≤maxLen∧cur.size=c*size
theorem rowL.next {base b2 t size n:Nat} {ob o2:Option Nat} {w w':World} {v:Value} (h:rowL base ob w v t size n) (g:Wz b2 o2 w w'):rowL base ob w' v t size n:=by
 rcases h with h | ⟨b,c,cur,h1,h2,h3,h4,h5,h6⟩
 · exact .inl h
 ·
  obtain ⟨c1,g1,g2⟩:=g.row b cur t h3
  exact .inr ⟨b,c,c1,h1,h2,g1,h4,h5,by omega⟩
theorem gZL {P:Program} {ops:Array Oper} {rest:List Oper} {o:Oper} {a:Act} {Q:Exit→Act→World→Prop} (w:World) (base:Nat) (ob:Option Nat)
 (hg:o.guard=none) (s x:Operand) (t:TypeId) (hop:o.op=Op.call { callee:=Callee.builtin Builtin.append,args:=#[s,x],argTypes:=#[t,t] })
 (e:TypeId) (i:TypeInfo) (z:Value) (size bytes:Nat) (h1:P.underlying t=some (.slice e)) (h2:P.info? e=some i) (h3:i.zero=some z) (h4:i.size=size) (h5:i.bytes=bytes) (h6:z.cells.size=size) (h7:0<size)
 (v:Value) (n:Nat) (hrow:rowL base ob w v e size n) (hs:a.eval s=v)
 (ad:Addr) (c:Nat) (news:List Value) (hx:a.eval x=.slice (some ad) 1 c) (hn:news.length=size) (hc:∀ j u,news[j]?=some u→w.cell? (ad.add j)=some u) (h1c:∀ u∈news,u.oneCell'=true)
 (b1:n+1≤maxLen) (b2:(n+1)*bytes≤140737488355328) (hbw:base≤w.heap.size)
 (hK:∀ v' w',rowL base ob w' v' e size (n+1)→Wz base ob w w'→wpList P ops Q rest (a.put o.dst v') w') :
 wpList P ops Q (o :: rest) a w:=by
 have grow:∀ v' w' olds,w'.ownsRow w.heap.size e size v' (n+1) olds→w.grownBy w' none→wpList P ops Q rest (a.put o.dst v') w':=fun v' w' olds r1 r2=>by
  refine hK v' w' ?_ (Wz.grown r2 hbw)
  rcases r1.2 with ⟨q1,q2⟩ | ⟨g,cap,cur,rfl,q1,q2,q3,q4,q5,-⟩
  · omega
  · exact .inr ⟨g,cap,cur,rfl,.inr (Nat.le_trans hbw q1),q2,q3,q4,q5⟩
 rcases hrow with ⟨rfl,rfl⟩ | ⟨b,cp,cur,rfl,hb,hh,hnc,hcm,hsz⟩
 · exact wpList_append_grows w hg s x t hop e i z size bytes h1 h2 h3 h4 h5 h6 h7 none 0 0 [] hs (fun _=>⟨rfl,rfl⟩) (by simp) (fun b hb=>by simp at hb) ad 1 c news hx (by omega) hc h1c (by omega) b1 b2 (fun v' w' r1 r2=>grow v' w' _ r1 r2)
 ·
  have hle:n*size≤cp*size:=Nat.mul_le_mul_right _ hnc
  refine wpList_append_arg w hg s x t hop e i z size bytes h1 h2 h3 h4 h5 h6 h7 b 0 n cp (cur.toList.take (n*size)) hs ?_ ?_ ad 1 c news hx (by omega) hc h1c ?_ b1 b2 ?_ (fun _ v' w' r1 r2=>grow v' w' _ r1 r2)
  · rw [List.length_take,Array.length_toList];omega
  ·
   intro j u hj
   rw [List.getElem?_take] at hj
   split at hj
   ·
    rw [Nat.zero_add]
    simp only [World.cell?,hh]
    simpa using hj
   · cases hj
  ·
   intro hr j hj
   have hlt:(n+1)*size≤cp*size:=Nat.mul_le_mul_right _ hr
   have hj2:0+n*size+j<cur.size:=by rw [hsz];rw [Nat.add_mul] at hlt;omega
   exact ⟨by rw [cZv hh hj2];rfl,aZf hh _⟩
  ·
   intro hr
   have hw:=Wz.sets hb news (0+n*size) w cur hh
   obtain ⟨c1,g1,g2⟩:=hw.row b cur e hh
   exact hK _ _ (.inr ⟨b,cp,c1,rfl,hb,g1,hr,hcm,by omega⟩) hw
theorem dZS {P:Program} {ops:Array Oper} {rest:List Oper} {o:Oper} {a:Act} {Q:Exit→Act→World→Prop} {W:World} (base:Nat) (ob:Option Nat)
    (hg:o.guard=none) (s x:Operand) (t e:TypeId) (z:Value) (size bytes:Nat) (hop:o.op=.call { callee:=.builtin .append,args:=#[s,x],argTypes:=#[t,t] })
    (h1:P.underlying t=some (.slice e)) (hi:(P.info? e).map (fun i=>(i.zero,i.size,i.bytes))=some (some z,size,bytes)) (h6:z.cells.size=size) (h7:0<size)
    (v:Value) (n:Nat) (cs:List Value) (hs:a.eval s=v) (hx:a.eval x=.slice (some ⟨W.heap.size,0,none⟩) 1 1) (hn:cs.length=size) (h1c:∀ u∈cs,u.oneCell'=true)
    (hrow:rowL base ob W v e size n) (b1:n+1≤maxLen) (b2:(n+1)*bytes≤140737488355328) (hbw:base≤W.heap.size)
    (hK:∀ v' w',rowL base ob w' v' e size (n+1)→Wz base ob W w'→wpList P ops Q rest (a.put o.dst v') w') :
    wpList P ops Q (o :: rest) a (W.alloc (.cells cs.toArray e)):=by
  cases hP:P.info? e with
  | none=>rw [hP] at hi;cases hi
  | some i =>
    rw [hP] at hi
    simp only [Option.map_some,Option.some.injEq,Prod.mk.injEq] at hi
    have hw:Wz base ob W (W.alloc (.cells cs.toArray e)):=Wz.below (aZa (Below.refl _ _) _) hbw
    have hnew:=heap_alloc_new W (.cells cs.toArray e)
    refine gZL _ base ob hg s x t hop e i z size bytes h1 hP hi.1 hi.2.1 hi.2.2 h6 h7 v n (hrow.next hw) hs ⟨W.heap.size,0,none⟩ 1 cs hx hn ?_ h1c b1 b2 (Nat.le_trans hbw hw.size) (fun v' w' r1 r2=>hK v' w' r1 (hw.trans r2))
    intro j u hu
    have hadd:(⟨W.heap.size,0,none⟩:Addr).add j=⟨W.heap.size,j,none⟩:=by unfold Addr.add;split <;> simp_all
    rw [hadd]
    simp only [World.cell?,hnew]
    simpa using hu
def LeL (a b:List Int):Prop:=a.length=b.length∧∀ i:Nat,a.getD i 0≠0→b.getD i 0=a.getD i 0
theorem LeL.refl (a:List Int):LeL a a:=⟨rfl,fun _ _=>rfl⟩
theorem LeL.trans {a b c : List Int} (h : LeL a b) (h' : LeL b c) : LeL a c := ⟨h.1.trans h'.1, fun i hi => by
  have h1:=h.2 i hi
  rw [h'.2 i (by rw [h1];exact hi),h1]⟩
theorem cZT (a b:List Int) (h:a.length=b.length) (i:Nat):(aZH a b).getD i 0=if a.getD i 0=b.getD i 0 then a.getD i 0 else 0:=by
 unfold aZH
 simp only [List.getD_eq_getElem?_getD,List.getElem?_zipWith]
 rcases Nat.lt_or_ge i a.length with hi|hi
 ·
  rw [List.getElem?_eq_getElem hi,List.getElem?_eq_getElem (by omega:i<b.length)]
  simp
 ·
  rw [List.getElem?_eq_none hi,List.getElem?_eq_none (by omega:b.length≤i)]
  simp
theorem dZK (a b:List Int) (h:a.length=b.length):LeL (aZH a b) a∧LeL (aZH a b) b:=by
 refine ⟨⟨aZY a b h,fun i hi=>?_⟩,⟨by rw [aZY a b h,h],fun i hi=>?_⟩⟩
 ·
  rw [cZT a b h] at hi ⊢
  split at hi
  · rename_i he;rw [if_pos he]
  · exact absurd rfl hi
 ·
  rw [cZT a b h] at hi ⊢
  split at hi
  · rename_i he;rw [if_pos he,he]
  · exact absurd rfl hi
theorem cZU {α:Type} (k t:Int) (hk:t≠k):∀ L:List (Int × α),look (del L k) t=look L t
  | []=>rfl
  | (j,h) :: r=>by
    unfold del
    split
    · rename_i hj
      rw [look,if_neg (by omega)]
    · rw [look,look,cZU k t hk r]
theorem cZk {α:Type} (t:Int) (x:Int × α):∀ L:List (Int × α),look (L++[x]) t=match look L t with|some o=>some o|none=>if x.1=t then some x.2 else none
  | []=>by simp [look]
  | (j,h) :: r=>by
    rw [List.cons_append,look,look]
    split
    · rfl
    · exact cZk t x r
theorem cZa {α:Type} (k:Int) (y:α):∀ L:List (Int × α),look L k≠none→look (upd L k y) k=some y
  | [],h=>absurd rfl h
  | (j,z) :: r,h=>by
    rw [upd]
    split
    · rename_i hj;rw [look,if_pos hj]
    · rename_i hj
      rw [look,if_neg hj] at h
      rw [look,if_neg hj]
      exact cZa k y r h
theorem dZx {α:Type} (k t:Int) (y:α) (hk:t≠k):∀ L:List (Int × α),look (upd L k y) t=look L t
  | []=>rfl
  | (j,z) :: r=>by
    rw [upd]
    split
    · rename_i hj;rw [look,look,if_neg (by omega),if_neg (by omega)]
    · rw [look,look,dZx k t y hk r]
def To (σ s:St):Prop:=σ.stk=s.stk∧LeL σ.loc s.loc
theorem To.refl (s:St):To s s:=⟨rfl,LeL.refl _⟩
def GoodAt (k:Wk) (i:Nat) (Z:List St):Prop :=
  ∃ σ r s2,Z=σ :: r∧σ.loc.length=k.loc.toNat∧bZi k i=0∧aZ2 k.dep (aZg rowsL (aZi k.C i).f0) (aZi k.C i) σ=.ok s2 ∧
    ((aZi k.C i).f0≠36→∃ σ',r.head?=some σ'∧To σ' s2)∧((aZi k.C i).f0=33∨(aZi k.C i).f0=34→∃ σ',Z[((aZi k.C i).f1 - i).toNat]?=some σ'∧To σ' s2)
theorem fZe (k:Wk) (hk:0≤k.loc):∀ (d i:Nat) (s:St) (M:List (Int × St)) (told:List (List Int)) (most:Int) (t:List (List Int)) (m:Int),
 i+d=k.C.length→s.loc.length=k.loc.toNat→(∀ x∈M,x.2.loc.length=k.loc.toNat)→runL k d i s M told most=.ok (t,m) →
 ∃ Z:List St,Z.length=d∧t=told++Z.map St.stk∧most≤m∧(∀ σ∈Z,(σ.stk.length:Int)≤m)∧(∀ σ,Z.head?=some σ→To σ s) ∧
  (∀ (p:Int) (o:St),look M p=some o→(i:Int)≤p→p<k.C.length→o.joined=false∧∃ σ,Z[(p - i).toNat]?=some σ∧To σ o) ∧
  ∀ j,j<d→GoodAt k (i+j) (Z.drop j)
 | 0,i,s,M,told,most,t,m,hi,hs,hM,h=>by
  injection h with h;injection h with h1 h2
  subst h1;subst h2
  exact ⟨[],rfl,by simp,Int.le_refl _,by simp,by simp,fun p o _ h1 h2=>by omega,fun j hj=>absurd hj (Nat.not_lt_zero _)⟩
 | d+1,i,s,M,told,most,t,m,hi,hs,hM,h=>by
  rw [runL] at h
  split at h
  · cases h
  rename_i g1
  have hf:bZi k i=0:=by
   by_cases hq:bZi k i=0
   · exact hq
   · exact absurd hq g1
  obtain ⟨f1,f2,f3,f4⟩:=dZO hf
  obtain ⟨r1,r2,r3⟩:=fZ9 _ f1 f2
  split at h
  · cases h
  rename_i g2
  obtain ⟨a1,a2⟩:=fZx (i:=(i:Int)) (z:=0) hs hM
  have hj:(aZI M i s).joined=false:=by simpa using g2
  have hst:=fZw hj
  split at h
  · cases h
  rename_i s2 hstep
  have hlt1:(aZg rowsL (aZi k.C i).f0).f2=⟨#[76]⟩→(aZi k.C i).f1.toNat<(aZI M i s).loc.length:=fun h=>by
   have:=f3 (r1 h);rw [a2];omega
  have hlt2:(aZi k.C i).f0=31→(aZi k.C i).f1.toNat<(aZI M i s).loc.length:=fun h=>by
   have:=f3 (r2 h);rw [a2];omega
  obtain ⟨-,-,w3,w4,w5,w6⟩:=fZ5 (dep':=0) (z:=0) hstep hlt1 hlt2
  have hM2:∀ x∈del M i,x.2.loc.length=k.loc.toNat:=fun x hx=>hM x (cZ8 _ _ _ hx)
  have hs2:s2.loc.length=k.loc.toNat:=by rw [w4,a2]
  have hTo:To (aZI M i s) s:=by
   refine ⟨hst,?_⟩
   cases hl:look M i with
   | none=>rw [bZZ hl];exact LeL.refl _
   | some o =>
    rw [bZB hl]
    exact (dZK o.loc s.loc (by rw [hM _ (bZq i M o hl),hs])).2
  have hTo2:∀ o,look M i=some o→o.joined=false∧To (aZI M i s) o:=fun o hl=>by
   rw [bZB hl] at hj ⊢
   have hjj:o.joined=false∧o.stk=s.stk:=by
    unfold aZF at hj;simp at hj;exact hj
   exact ⟨hjj.1,rfl,(dZK o.loc s.loc (by rw [hM _ (bZq i M o hl),hs])).1⟩
  have hrd:aZi k.C i=aZi k.C (i:Int):=rfl
  by_cases h36:(aZi k.C i).f0=36
  ·
   have hn33:¬((aZi k.C i).f0=33∨(aZi k.C i).f0=34):=by omega
   rw [if_neg hn33,if_pos h36] at h
   injection h with h;injection h with h1 h2
   subst h1;subst h2
   have hd0:d=0:=by have:=f4.1 h36;omega
   subst hd0
   refine ⟨[aZI M i s],rfl,by simp,by omega,fun σ hσ=>?_,fun σ hσ=>?_,fun p o hl h1 h2=>?_,fun j hj=>?_⟩
   · rw [List.mem_singleton.1 hσ];omega
   · injection hσ with hσ;subst hσ;exact hTo
   ·
    have hp:p=(i:Int):=by omega
    subst hp
    obtain ⟨q1,q2⟩:=hTo2 o hl
    exact ⟨q1,_,by rw [show ((i:Int) - i).toNat=0 by omega];rfl,q2⟩
   ·
    have:j=0:=by omega
    subst this
    exact ⟨_,[],s2,rfl,a2,hf,hstep,fun h=>absurd h36 h,fun h=>absurd h hn33⟩
  ·
   have hd0:0<d:=by
    rcases Nat.eq_zero_or_pos d with h|h
    · exact absurd (f4.2 (by omega)) h36
    · exact h
   rw [if_neg h36] at h
   have key:∀ M2:List (Int × St),(∀ x∈M2,x.2.loc.length=k.loc.toNat)→(∀ p o,look M p=some o→p≠i→∃ o2,look M2 p=some o2∧(o2.joined=false→o.joined=false∧To o2 o)) →
    ((aZi k.C i).f0=33∨(aZi k.C i).f0=34→((i:Int)<(aZi k.C i).f1∧(aZi k.C i).f1<k.C.length)∧∃ o2,look M2 (aZi k.C i).f1=some o2∧(o2.joined=false→To o2 s2)) →
    runL k d (i+1) s2 M2 (told++[(aZI M i s).stk]) (max most (aZI M i s).stk.length)=.ok (t,m) →
    ∃ Z:List St,Z.length=d+1∧t=told++Z.map St.stk∧most≤m∧(∀ σ∈Z,(σ.stk.length:Int)≤m)∧(∀ σ,Z.head?=some σ→To σ s) ∧
     (∀ (p:Int) (o:St),look M p=some o→(i:Int)≤p→p<k.C.length→o.joined=false∧∃ σ,Z[(p - i).toNat]?=some σ∧To σ o) ∧
     ∀ j,j<d+1→GoodAt k (i+j) (Z.drop j):=by
    intro M2 hM2' hkeep hjump hr
    obtain ⟨Z,b1,b2,b3,b4,b5,b6,b7⟩:=fZe k hk d (i+1) s2 M2 _ _ t m (by omega) hs2 hM2' hr
    refine ⟨aZI M i s :: Z,by simp [b1],by rw [b2];simp,by omega,fun σ hσ=>?_,fun σ hσ=>?_,fun p o hl h1 h2=>?_,fun j hj=>?_⟩
    ·
     rcases List.mem_cons.1 hσ with rfl|hσ
     · omega
     · exact b4 σ hσ
    · injection hσ with hσ;subst hσ;exact hTo
    ·
     by_cases hp:p=(i:Int)
     ·
      subst hp
      obtain ⟨q1,q2⟩:=hTo2 o hl
      exact ⟨q1,_,by rw [show ((i:Int) - i).toNat=0 by omega];rfl,q2⟩
     ·
      obtain ⟨o2,e1,e2⟩:=hkeep p o hl hp
      obtain ⟨e3,σ,e4,e5⟩:=b6 p o2 e1 (by push_cast;omega) h2
      obtain ⟨e6,e7⟩:=e2 e3
      refine ⟨e6,σ,?_,e5.1.trans e7.1,e5.2.trans e7.2⟩
      rw [show (p - i).toNat=(p - (i+1:Nat)).toNat+1 by push_cast;omega,List.getElem?_cons_succ]
      exact e4
    ·
     cases j with
     | succ j =>
      have:=b7 j (by omega)
      rw [List.drop_succ_cons,show i+(j+1)=i+1+j by omega]
      exact this
     | zero =>
      refine ⟨_,Z,s2,rfl,a2,hf,hstep,fun _=>?_,fun h33=>?_⟩
      ·
       cases hZ:Z with
       | nil=>rw [hZ] at b1;simp at b1;omega
       | cons σ r=>exact ⟨σ,rfl,b5 σ (by rw [hZ];rfl)⟩
      ·
       obtain ⟨⟨j1,j2⟩,o2,e1,e2⟩:=hjump h33
       obtain ⟨e3,σ,e4,e5⟩:=b6 _ o2 e1 (by push_cast;omega) j2
       have e6:=e2 e3
       refine ⟨σ,?_,e5.1.trans e6.1,e5.2.trans e6.2⟩
       show (aZI M i s :: Z)[((aZi k.C i).f1 - (i+0:Nat)).toNat]?=some σ
       rw [show ((aZi k.C i).f1 - (i+0:Nat)).toNat=((aZi k.C i).f1 - (i+1:Nat)).toNat+1 by push_cast;omega,List.getElem?_cons_succ]
       exact e4
   by_cases h33:(aZi k.C i).f0=33∨(aZi k.C i).f0=34
   ·
    rw [if_pos h33] at h
    have htg:(i:Int)<(aZi k.C i).f1∧(aZi k.C i).f1<k.C.length:=by
     unfold bZi at hf
     split at hf
     · omega
     split at hf
     · omega
     unfold cZ1 at hf
     split at hf
     · omega
     ·
      rename_i hx
      by_cases q1:(aZi k.C i).f1≤i
      · exact absurd ⟨h33,.inl q1⟩ hx
      ·
       by_cases q2:(k.C.length:Int)≤(aZi k.C i).f1
       · exact absurd ⟨h33,.inr q2⟩ hx
       · omega
    obtain ⟨l1,l2⟩:=hZD (t:=(aZi k.C i).f1) (z:=0) hs2 hM2
    refine key _ l2 (fun p o hl hp=>?_) (fun _=>⟨htg,?_⟩) h
    ·
     have hl2:look (del M i) p=some o:=by rw [cZU _ _ hp];exact hl
     unfold dZy
     by_cases hpa:p=(aZi k.C i).f1
     ·
      subst hpa
      rw [hl2]
      dsimp only
      refine ⟨_,cZa _ _ _ (by rw [hl2];exact fun h=>by cases h),fun hjn=>?_⟩
      have ho:o.loc.length=k.loc.toNat:=hM _ (bZq _ M o hl)
      have hjj:o.joined=false∧o.stk=s2.stk:=by unfold aZF at hjn;simp at hjn;exact hjn
      exact ⟨hjj.1,rfl,(dZK o.loc s2.loc (by omega)).1⟩
     ·
      cases hla:look (del M i) (aZi k.C i).f1 with
      | none =>
       dsimp only
       refine ⟨o,by rw [cZk,hl2],fun h=>⟨h,To.refl _⟩⟩
      | some o' =>
       dsimp only
       refine ⟨o,by rw [dZx _ _ _ hpa];exact hl2,fun h=>⟨h,To.refl _⟩⟩
    ·
     unfold dZy
     cases hla:look (del M i) (aZi k.C i).f1 with
     | none =>
      dsimp only
      exact ⟨⟨s2.stk,s2.loc,false⟩,by rw [cZk,hla];simp,fun _=>⟨rfl,LeL.refl _⟩⟩
     | some o' =>
      dsimp only
      refine ⟨_,cZa _ _ _ (by rw [hla];exact fun h=>by cases h),fun hjn=>?_⟩
      have ho:o'.loc.length=k.loc.toNat:=hM2 _ (bZq _ _ o' hla)
      have hjj:o'.joined=false∧o'.stk=s2.stk:=by unfold aZF at hjn;simp at hjn;exact hjn
      exact ⟨hjj.2,(dZK o'.loc s2.loc (by omega)).2⟩
   ·
    rw [if_neg h33] at h
    refine key _ hM2 (fun p o hl hp=>⟨o,by rw [cZU _ _ hp];exact hl,fun h=>⟨h,To.refl _⟩⟩) (fun h=>absurd h h33) h
def cZQ (t:ByteArray):List Int:=(List.range t.size).map fun (j:Nat)=>cZb (bt t j) 0
theorem gZB (stk:List Int) (frm:Nat) (t:ByteArray) (first:Int):∀ (d j:Nat),aZA stk frm t first d j=true→∀ q,j≤q→q<j+d→fitF (stk.getD (frm+q) 0) (bt t q) first=true
  | 0,j,_,q,h1,h2=>by omega
  | d+1,j,h,q,h1,h2=>by
    rw [aZA] at h
    split at h
    · cases h
    · rename_i hf
      by_cases hq:q=j
      · subst hq;simpa using hf
      · exact gZB stk frm t first d (j+1) h q (by omega) (by omega)
theorem cell_u (a:Int):cZb 85 a=wrap64 (1+a):=by
  unfold cZb
  rw [if_neg (by decide),Int.add_comm]
theorem eff_u {op a:Int} {T:List Int} {c:Int} (h:berthref21_Effect.f 8 op a=some (T,wrap64 (1+a))) (hc:c=85):berthref21_Effect.f 8 op a=some (T,cZb c a):=by subst hc;rw [cell_u];exact h
theorem cell_ne (c a:Int) (h:c≠85→0≤cZV c) (ha:c=85→a=0∨a=1):cZb c a≠0:=by
 by_cases hc:c=85
 ·
  subst hc
  rw [cell_u]
  rcases ha rfl with rfl|rfl <;> decide +kernel
 ·
  have:=h hc
  unfold cZb
  rw [if_pos this]
  omega
theorem hZd (op a:Int) (h1:1≤op) (h2:op≤26) (ha:bt (aZg rowsL op).f0 0=117→a=0∨a=1) :
    (∃ k,berthref21_Effect.f k op a=some (cZQ (aZg rowsL op).f1,cZb (bt (aZg rowsL op).f2 0) a))∧(∀ j,j<(aZg rowsL op).f1.size→bt (aZg rowsL op).f1 j≠42∧bt (aZg rowsL op).f1 j≠66)∧(aZg rowsL op).f2≠⟨#[]⟩∧(aZg rowsL op).f2≠⟨#[61]⟩∧(aZg rowsL op).f2≠⟨#[76]⟩∧bt (aZg rowsL op).f0 0≠106∧cZb (bt (aZg rowsL op).f2 0) a≠0∧(aZg rowsL op).f1.size≤2:=by
  have hop:op=1∨op=2∨op=3∨op=4∨op=5∨op=6∨op=7∨op=8∨op=9∨op=10∨op=11∨op=12∨op=13∨op=14∨op=15∨op=16∨op=17∨op=18∨op=19∨op=20∨op=21∨op=22∨op=23∨op=24∨op=25∨op=26:=by omega
  rcases hop with rfl|rfl|rfl|rfl|rfl|rfl|rfl|rfl|rfl|rfl|rfl|rfl|rfl|rfl|rfl|rfl|rfl|rfl|rfl|rfl|rfl|rfl|rfl|rfl|rfl|rfl
  all_goals refine ⟨⟨8,?_⟩,by decide +kernel,by decide +kernel,by decide +kernel,by decide +kernel,by decide +kernel,cell_ne _ _ (by decide +kernel) (fun h=>?_),by decide +kernel⟩
  all_goals first|exact ha rfl|exact absurd h (by decide +kernel)|rfl|exact eff_u rfl rfl
theorem form_oper {k:Wk} {i:Nat} (h:bZi k i=0):bZk k (bt (aZg rowsL (aZi k.C i).f0).f0 0) (aZi k.C i).f1=true:=by
 unfold bZi at h
 split at h
 · omega
 ·
  split at h
  · omega
  ·
   rename_i h2
   cases hq:bZk k _ _ with
   | true=>rfl
   | false=>exact absurd (.inl hq) h2
theorem hZN {W:World} {X t:Nat} {a b c d:Value} (h:W.heap[X]?=some (.cells #[a,b,c,d] t (0,0))):W.cell? ⟨X,0,none⟩=some a∧W.cell? ⟨X,1,none⟩=some b∧W.cell? ⟨X,2,none⟩=some c∧W.cell? ⟨X,3,none⟩=some d:=by
  simp [World.cell?,h]
theorem own_ints3 {W:World} {base:Nat} {ok:Nat→Prop} {v:Value} {xs:List Int} (h:W.ownsRow base 3 1 v xs.length (xs.map (Value.int .i64))) (hok:∀ k,base≤k→ok k):(Kd.int .i64).R 3 W base ok v xs :=
  ⟨fun k hk=>hok k (bZo h k hk),xs.map (Value.int .i64),h,Kd.reps_scalar (enc:=Value.int .i64) xs⟩
theorem fZj (W:World):(Kd.int .i64).R 3 (W.alloc (.cells #[] 3)) W.heap.size (fun k=>W.heap.size≤k) (.slice (some ⟨W.heap.size,0,none⟩) 0 0) []:=by
  have h:=World.ownsRow_lit (base:=W.heap.size) (e:=3) (size:=1) W #[] 0 (Nat.le_refl _) (by simp [maxLen]) (by simp)
  exact own_ints3 (xs:=[]) (by simpa using h) (fun k hk=>hk)
theorem Wz.less {b1 b2:Nat} {ob:Option Nat} {w w':World} (h:Wz b1 ob w w') (hb:b2≤b1):Wz b2 ob w w':=⟨h.os,h.tape,h.output,h.size,fun k hk=>h.block k (Nat.lt_of_lt_of_le hk hb),h.row⟩
theorem wipe26 (w:World) (v:Value) (m0 m1 m2 m3:Int) (n:Nat) (h:rowL w.heap.size v.ownBlock w v 66 4 n) (hn:(n+80)*32≤140737488355328) :
 Calls Try.prog 26 #[v,.agg #[.int .i64 m0,.int .i64 m1,.int .i64 m2,.int .i64 m3]] w fun e w'=>(∃ x,e=.returned x)∧Wz w.heap.size v.ownBlock w w':=by
 have hln:∀ q,q<80→n+q+1≤maxLen∧(n+q+1)*32≤140737488355328:=fun q hq=>by
  have h1:n+q+1≤n+80:=by clear h hn;omega
  have h2:(n+q+1)*32≤140737488355328:=Nat.le_trans (Nat.mul_le_mul_right 32 h1) hn
  exact ⟨Nat.le_trans (Nat.le_trans (Nat.le_mul_of_pos_right _ (by decide)) h2) (by decide),h2⟩
 have HLN:=hid_ hln
 clear hln
 obtain ⟨ob,hob⟩:∃ ob,ob=v.ownBlock:=⟨_,rfl⟩
 obtain ⟨W0,hW0⟩:∃ W0,W0=w.alloc (.cells #[.int .i64 m0,.int .i64 m1,.int .i64 m2,.int .i64 m3] 66):=⟨_,rfl⟩
 have hbel:Below w.heap.size w W0:=by rw [hW0];exact aZa (Below.refl _ _) _
 have hbox:W0.heap[w.heap.size]?=some (.cells #[.int .i64 m0,.int .i64 m1,.int .i64 m2,.int .i64 m3] 66 (0,0)):=by rw [hW0];exact heap_alloc_new _ _
 have hs0:W0.heap.size=w.heap.size+1:=by rw [hW0];simp
 have hr:rowL W0.heap.size ob W0 v 66 4 n:=by
  rcases h with h | ⟨b,c,cur,h1,h2,h3,h4⟩
  · exact .inl h
  · exact .inr ⟨b,c,cur,h1,.inl (by rw [hob,h1];rfl),aZc h3 hbel,h4⟩
 have hne:some w.heap.size≠ob:=by
  rcases h with ⟨h,-⟩ | ⟨b,c,cur,h1,h2,h3,h4⟩
  · rw [hob,h];exact fun e=>by cases e
  ·
   rw [hob,h1]
   have:=aZd h3
   exact fun e=>by injection e with e;simp only at e;omega
 have HB0:=hid_ (And.intro hbel (And.intro hbox (And.intro hs0 hne)))
 obtain ⟨A,c,hv⟩:∃ A c,v=.slice A n c:=by
  rcases h with ⟨h1,h2⟩ | ⟨b,c,cur,h1,-⟩
  · subst h2;exact ⟨none,0,h1⟩
  · exact ⟨_,_,h1⟩
 rw [←hob]
 subst hv
 have HR:=hid_ hr
 clear h hr hob hbel hbox hs0 hne
 go_enter Try.func26,Try.ntmps26
 go_wp2_with (fail)
 rw [←hW0]
 clear hW0
 go_loopw [9] (fun s9 wr=>∃ j:Nat,s9=.int .i64 j∧j≤n∧Wz W0.heap.size ob W0 wr) (fun s9 _=>n - (intOf s9).toNat)
 case atStart=>exact ⟨0,rfl,Nat.zero_le _,Wz.refl _ _ _⟩
 case round =>
  obtain ⟨j,rfl,hj,hw⟩:=hrel
  have hbx:=(hw.block w.heap.size (by have:=HB0.out.2.2.1;omega) HB0.out.2.2.2).trans HB0.out.2.1
  obtain ⟨x0,x1,x2,x3⟩:=hZN hbx
  clear hbx
  by_cases hlt:j<n
  ·
   rcases HR.out.next hw with ⟨h1,h2⟩ | ⟨b,c2,cur,h1,hb,hh,hnc,hcm,hsz⟩
   · omega
   simp only [Value.slice.injEq] at h1
   obtain ⟨rfl,-,rfl⟩:=h1
   obtain ⟨cj0,y0⟩:∃ u,wr.cell? ⟨b,j*4,none⟩=some u:=⟨_,cZv hh (by omega)⟩
   obtain ⟨cj1,y1⟩:∃ u,wr.cell? ⟨b,j*4+1,none⟩=some u:=⟨_,cZv hh (by omega)⟩
   obtain ⟨cj2,y2⟩:∃ u,wr.cell? ⟨b,j*4+2,none⟩=some u:=⟨_,cZv hh (by omega)⟩
   obtain ⟨cj3,y3⟩:∃ u,wr.cell? ⟨b,j*4+3,none⟩=some u:=⟨_,cZv hh (by omega)⟩
   have yf:=fun i=>aZf hh i
   have i0:(0:Int)≤(j:Int):=by omega
   have i1:(j:Int)<(n:Int):=by omega
   have f0:=yf (j*4)
   have f1:=yf (j*4+1)
   have f2:=yf (j*4+2)
   have f3:=yf (j*4+3)
   have HW:=hid_ (hw.trans (Wz.sets hb [.int .i64 m0,.int .i64 m1,.int .i64 m2,.int .i64 m3] (j*4) wr cur hh))
   clear hw hh hb hnc hcm hsz yf
   go_wp2_with (fail)
   go_roundw
   case rel=>exact ⟨j+1,by go_num,hlt,HW.out⟩
   case measure=>simp [intOf];omega
  ·
   have hge:¬(j:Int)<(n:Int):=by omega
   have HW:=hid_ hw
   clear hw hlt x0 x1 x2 x3
   go_wp2_with (fail)
   go_loopw [5,6] (fun s5 s6 wx=>∃ j:Nat,s6=.int .i64 j∧j≤80∧rowL W0.heap.size ob wx s5 66 4 (n+j)∧Wz W0.heap.size ob W0 wx) (fun _ s6 _=>80 - (intOf s6).toNat)
   case atStart=>exact ⟨0,rfl,by omega,HR.out.next HW.out,HW.out⟩
   case round =>
    obtain ⟨q,rfl,hq,hrow,hw⟩:=hrel
    by_cases hlt:q<80
    ·
     have i1:(q:Int)<80:=by omega
     have hbx:=(hw.block w.heap.size (by have:=HB0.out.2.2.1;omega) HB0.out.2.2.2).trans HB0.out.2.1
     obtain ⟨x0,x1,x2,x3⟩:=hZN hbx
     have HROW:=hid_ hrow
     have HW2:=hid_ hw
     have hsz:=hw.size
     have HB:=hid_ (And.intro (HLN.out q hlt).1 (And.intro (HLN.out q hlt).2 hsz))
     clear hrow hw hsz hbx
     go_wp2_with ((with_reducible refine aZh (b:=.append) (xs:=#[.tmp 22,.tmp 24]) rfl ?_);at_builtin;refine dZS W0.heap.size ob rfl (.tmp 22) (.tmp 24) 26 66 (.agg #[.int .i64 0,.int .i64 0,.int .i64 0,.int .i64 0]) 4 32 rfl Try.underlying26 info66 rfl (by decide) u5 (n+q) [.int .i64 m0,.int .i64 m1,.int .i64 m2,.int .i64 m3] rfl rfl rfl (by simp [Value.oneCell']) HROW.out HB.out.1 HB.out.2.1 HB.out.2.2 ?_;intro v2 w2 hr2 hw2)
     have HW3:=hid_ (HW2.out.trans hw2)
     have HR3:=hid_ hr2
     clear hr2 hw2 HW2 HROW x0 x1 x2 x3
     go_roundw
     case rel=>exact ⟨q+1,by go_num,hlt,HR3.out,HW3.out⟩
     case measure=>simp [intOf];omega
    ·
     have hge:¬(q:Int)<80:=by omega
     have HW2:=hid_ hw
     clear hw hrow hlt
     go_wp2_with (fail)
     go_end0
     exact ⟨⟨_,rfl⟩,(Wz.below HB0.out.1 (Nat.le_refl _)).trans (HW2.out.less (by have:=HB0.out.2.2.1;omega))⟩
structure Wq (may:Nat→Prop) (w w':World):Prop where
  os:w'.os=w.os
  tape:w'.tape=w.tape
  output:w'.output=w.output
  size:w.heap.size≤w'.heap.size
  block:∀ k:Nat,k<w.heap.size→¬may k→w'.heap[k]?=w.heap[k]?
  row:∀ (k:Nat) (cells:Array Value) (t:Nat),w.heap[k]?=some (.cells cells t (0,0))→∃ cells':Array Value,w'.heap[k]?=some (.cells cells' t (0,0))∧cells'.size=cells.size
theorem Wq.trans {may:Nat→Prop} {w w1 w2:World} (h:Wq may w w1) (g:Wq may w1 w2):Wq may w w2 :=
  ⟨g.os.trans h.os, g.tape.trans h.tape, g.output.trans h.output, Nat.le_trans h.size g.size, fun k hk hn => (g.block k (Nat.lt_of_lt_of_le hk h.size) hn).trans (h.block k hk hn), fun k cells t hk => by
    obtain ⟨c1,a1,a2⟩:=h.row k cells t hk
    obtain ⟨c2,b1,b2⟩:=g.row k c1 t a1
    exact ⟨c2,b1,by omega⟩⟩
theorem Wq.mono {may may2:Nat→Prop} {w w':World} (h:Wq may w w') (hm:∀ k,may k→may2 k):Wq may2 w w':=⟨h.os,h.tape,h.output,h.size,fun k hk hn=>h.block k hk (fun hh=>hn (hm k hh)),h.row⟩
theorem Wq.below {may:Nat→Prop} {w w':World} (h:Below w.heap.size w w'):Wq may w w' :=
  ⟨h.os,h.tape,h.output,h.size,fun k hk _=>h.block k hk,fun k cells t hk=>⟨cells,(h.block k (aZd hk)).trans hk,rfl⟩⟩
theorem Wz.q {ob:Option Nat} {w w':World} (h:Wz w.heap.size ob w w'):Wq (fun k=>some k=ob) w w':=⟨h.os,h.tape,h.output,h.size,fun k hk hn=>h.block k hk hn,h.row⟩
theorem Wq.set {b i t:Nat} {may:Nat→Prop} {w:World} {cur:Array Value} (h:w.heap[b]?=some (.cells cur t (0,0))) (hb:may b) (v:Value):Wq may w (w.setCell ⟨b,i,none⟩ v):=by
  have hz:=Wz.set (base:=w.heap.size) (ob:=some b) (i:=i) h (.inl rfl) v
  exact (Wz.q hz).mono (fun k hk=>by injection hk with hk;subst hk;exact hb)
theorem Wq.same {may:Nat→Prop} {w w':World} {k:Nat} {o:Obj} (h:Wq may w w') (hk:w.heap[k]?=some o) (hn:¬may k):w'.heap[k]?=some o :=
  (h.block k (Array.getElem?_eq_some_iff.1 hk).1 hn).trans hk
theorem C66_put {W:World} {b n j:Nat} {cur:Array Value} {C:List S66} {x:S66} (v:Int) (hC:Kd.C k66 W (some ⟨b,0,none⟩) n C) (hh:W.heap[b]?=some (.cells cur 66 (0,0))) (hx:C[j]?=some x) :
 Kd.C k66 (W.setCell ⟨b,j*4,none⟩ (.int .i64 v)) (some ⟨b,0,none⟩) n (C.set j ⟨v,x.f1,x.f2,x.f3⟩):=by
 have hr:(W.setCell ⟨b,j*4,none⟩ (.int .i64 v)).heap[b]?=some (.cells (cur.setIfInBounds (j*4) (.int .i64 v)) 66 (0,0)):=by
  rw [setCell_eq_setRow W b (j*4) cur 66 (0,0) _ hh];exact setRow_heap _ _ _ _ _ _ hh
 obtain ⟨h1,h2,h3⟩:=hC
 refine ⟨by rw [List.length_set];exact h1,h2,fun hn=>?_⟩
 obtain ⟨ad,ha,hc⟩:=h3 hn
 injection ha with ha
 subst ha
 have hadd:∀ o:Nat,(⟨b,0,none⟩:Addr).add o=⟨b,o,none⟩:=fun o=>by unfold Addr.add;split <;> simp_all
 have hw:∀ o u,W.cell? ⟨b,o,none⟩=some u→o≠j*4→(W.setCell ⟨b,j*4,none⟩ (.int .i64 v)).cell? ⟨b,o,none⟩=some u:=fun o u hu hne=>by
  rw [cell_of_row _ b o _ 66 (0,0) hr,Array.getElem?_setIfInBounds_ne hne.symm,←cell_of_row W b o cur 66 (0,0) hh]
  exact hu
 refine ⟨_,rfl,fun i p hp=>?_⟩
 by_cases hij:i=j
 ·
  subst hij
  obtain ⟨c,c1,c2,c3⟩:=hc i x hx
  obtain rfl:=eZq c2
  have hl:i<C.length:=(List.getElem?_eq_some_iff.1 hx).1
  rw [List.getElem?_set_self hl] at hp
  obtain rfl:=Option.some.inj hp
  refine ⟨_,rfl,dZM _ _,fun q u hu=>?_⟩
  have h4:k66.sz=4:=rfl
  rw [hadd,h4]
  match q,hu with
  | 0,hu =>
   obtain rfl:=Option.some.inj hu
   have h0:=c3 0 _ rfl
   rw [hadd,h4] at h0
   rw [cell_of_row _ b _ _ 66 (0,0) hr]
   rw [cell_of_row W b _ cur 66 (0,0) hh] at h0
   have hb:i*4+0<cur.size:=(Array.getElem?_eq_some_iff.1 h0).1
   exact Array.getElem?_setIfInBounds_self_of_lt hb
  | q+1,hu =>
   have h0:=c3 (q+1) u hu
   rw [hadd,h4] at h0
   exact hw _ _ h0 (by omega)
 ·
  rw [List.getElem?_set_ne (Ne.symm hij)] at hp
  obtain ⟨c,c1,c2,c3⟩:=hc i p hp
  obtain rfl:=eZq c2
  refine ⟨_,rfl,dZM _ _,fun q u hu=>?_⟩
  have h4:k66.sz=4:=rfl
  have h0:=c3 q u hu
  rw [hadd,h4] at h0 ⊢
  have hq:q<4:=by
   have:=(List.getElem?_eq_some_iff.1 hu).1
   simpa using this
  exact hw _ _ h0 (by omega)
def effF (op a:Int):List Int × Int:=(berthref21_Effect.f 8 op a).getD ([],0)
def cZz (p:Int):List Int:=if 0<p then [p] else []
def dZb (x:S66) (stk loc:List Int):Except Int (Nat × Int) :=
  if x.f0=27∨x.f0=28∨x.f0=29 then
    if stk.length<2 then .error 214
    else if ¬(stk.getD (stk.length - 1) 0=1∨stk.getD (stk.length - 1) 0=2)∨stk.getD (stk.length - 2) 0≠stk.getD (stk.length - 1) 0 then .error 215
    else .ok (2,stk.getD (stk.length - 1) 0)
  else if x.f0=32 then
    if loc.getD x.f1.toNat 0=0 then .error 217 else .ok (0,loc.getD x.f1.toNat 0)
  else if stk.length<1 then .error 214
  else if x.f0=35 then .ok (1,0)
  else if ¬(stk.getD (stk.length - 1) 0=1∨stk.getD (stk.length - 1) 0=2) then .error 215
  else if x.f0=31 then .ok (1,0)
  else .ok (1,stk.getD (stk.length - 1) 0)
def aZS (x:S66) (stk loc:List Int):Except Int (List Int × List Int) :=
  if 27≤x.f0∧x.f0≤35 then
    match dZb x stk loc with
    | .error e=>.error e
    | .ok (n,p)=>.ok (stk.take (stk.length - n)++cZz p,if x.f0=31 then loc.set x.f1.toNat (stk.getD (stk.length - 1) 0) else loc)
  else if stk.length<(effF x.f0 x.f1).1.length then .error 214
  else if stk.drop (stk.length - (effF x.f0 x.f1).1.length)≠(effF x.f0 x.f1).1 then .error 215
  else .ok (stk.take (stk.length - (effF x.f0 x.f1).1.length)++cZz (effF x.f0 x.f1).2,loc)
def eZT (r:S165) (x:S66) (stk loc:List Int):Except Int (List Int × List Int) :=
  if stk.length<r.f1.size then .error 214
  else if aZA stk (stk.length - r.f1.size) r.f1 (aZM stk (stk.length - r.f1.size) r.f1.size) r.f1.size 0=false then .error 215
  else putF r.f2 x (stk.take (stk.length - r.f1.size)) loc (aZM stk (stk.length - r.f1.size) r.f1.size)
theorem step_core (dep:Int) (r:S165) (x:S66) (s:St):aZ2 dep r x s=endF dep x s.joined (eZT r x s.stk s.loc):=by
 unfold aZ2 eZT
 split
 · rfl
 ·
  split
  · rfl
  · rfl
theorem hZG (stk:List Int) (frm:Nat) (t:ByteArray) (first:Int):∀ (d j:Nat),(∀ q,j≤q→q<j+d→fitF (stk.getD (frm+q) 0) (bt t q) first=true)→aZA stk frm t first d j=true
  | 0,j,_=>rfl
  | d+1,j,h=>by
    rw [aZA,if_neg (by rw [h j (by omega) (by omega)];decide)]
    exact hZG stk frm t first d (j+1) (fun q h1 h2=>h q (by omega) (by omega))
theorem eZv (t:ByteArray):(cZQ t).length=t.size:=by unfold cZQ;simp
theorem eZw (t:ByteArray) (q:Nat) (h:q<t.size):(cZQ t)[q]?=some (cZb (bt t q) 0):=by
  unfold cZQ
  rw [List.getElem?_map,List.getElem?_range h]
  rfl
theorem fZo (t:ByteArray) (stk:List Int) (first:Int) (hp:∀ j,j<t.size→bt t j≠42∧bt t j≠66) (hl:t.size≤stk.length) :
 (aZA stk (stk.length - t.size) t first t.size 0=true↔stk.drop (stk.length - t.size)=cZQ t):=by
 constructor
 ·
  intro h
  have hfit:=gZB _ _ _ _ _ _ h
  apply List.ext_getElem?
  intro q
  rw [List.getElem?_drop]
  rcases Nat.lt_or_ge q t.size with hq|hq
  ·
   obtain ⟨p1,p2⟩:=hp q hq
   have hf:=hfit q (Nat.zero_le _) (by omega)
   unfold fitF at hf
   rw [if_neg p1,if_neg p2] at hf
   have hlt:stk.length - t.size+q<stk.length:=by omega
   rw [eZw t q hq,List.getElem?_eq_getElem hlt]
   simp only [List.getD_eq_getElem?_getD,List.getElem?_eq_getElem hlt] at hf
   simpa using hf
  · rw [List.getElem?_eq_none (by omega),List.getElem?_eq_none (by rw [eZv];exact hq)]
 ·
  intro h
  apply hZG
  intro q _ hq
  rw [Nat.zero_add] at hq
  obtain ⟨p1,p2⟩:=hp q hq
  unfold fitF
  rw [if_neg p1,if_neg p2]
  have h2:=eZw t q hq
  rw [←h,List.getElem?_drop] at h2
  rw [List.getD_eq_getElem?_getD,h2]
  simp
theorem eff_rows (op a:Int) (h1:1≤op) (h2:op≤26) (ha:bt (aZg rowsL op).f0 0=117→a=0∨a=1) :
 effF op a=(cZQ (aZg rowsL op).f1,cZb (bt (aZg rowsL op).f2 0) a)∧0<cZb (bt (aZg rowsL op).f2 0) a:=by
 have hop:op=1∨op=2∨op=3∨op=4∨op=5∨op=6∨op=7∨op=8∨op=9∨op=10∨op=11∨op=12∨op=13∨op=14∨op=15∨op=16∨op=17∨op=18∨op=19∨op=20∨op=21∨op=22∨op=23∨op=24∨op=25∨op=26:=by omega
 have pos:∀ c,(c≠85→0≤cZV c)→(c=85→a=0∨a=1)→0<cZb c a:=by
  intro c h ha
  by_cases hc:c=85
  ·
   subst hc
   rw [cell_u]
   rcases ha rfl with rfl|rfl <;> decide +kernel
  ·
   have:=h hc
   unfold cZb
   rw [if_pos this]
   omega
 rcases hop with rfl|rfl|rfl|rfl|rfl|rfl|rfl|rfl|rfl|rfl|rfl|rfl|rfl|rfl|rfl|rfl|rfl|rfl|rfl|rfl|rfl|rfl|rfl|rfl|rfl|rfl
 all_goals refine ⟨?_,pos _ (by decide +kernel) (fun h=>?_)⟩
 all_goals first|exact ha rfl|exact absurd h (by decide +kernel)|exact congrArg (Option.getD · ([],0)) (eff_u rfl rfl)|exact congrArg (Option.getD · ([],0)) (show berthref21_Effect.f 8 _ a=some _ from rfl)|rfl
theorem fZs (x:S66) (r:S165) (stk loc:List Int) (h27:¬(27≤x.f0∧x.f0≤35)) (hp:∀ j,j<r.f1.size→bt r.f1 j≠42∧bt r.f1 j≠66) (he:(effF x.f0 x.f1).1=cZQ r.f1) (hput:∀ first,putF r.f2 x (stk.take (stk.length - r.f1.size)) loc first=.ok (stk.take (stk.length - r.f1.size)++cZz (effF x.f0 x.f1).2,loc)) :
 eZT r x stk loc=aZS x stk loc:=by
 unfold eZT aZS
 rw [if_neg h27,he,eZv]
 by_cases hl:stk.length<r.f1.size
 · rw [if_pos hl,if_pos hl]
 ·
  rw [if_neg hl,if_neg hl]
  by_cases hd:stk.drop (stk.length - r.f1.size)=cZQ r.f1
  ·
   rw [if_neg (by rw [(fZo r.f1 stk _ hp (by omega)).2 hd];decide),if_neg (fun h=>h hd)]
   exact hput _
  ·
   rw [if_pos,if_pos hd]
   cases hq:aZA stk (stk.length - r.f1.size) r.f1 (aZM stk (stk.length - r.f1.size) r.f1.size) r.f1.size 0 with
   | false=>rfl
   | true=>exact absurd ((fZo r.f1 stk _ hp (by omega)).1 hq) hd
theorem hZb (c first:Int):fitF c 66 first=decide ((c=1∨c=2)∧c=first):=by unfold fitF;rw [if_neg (by decide),if_pos rfl]
theorem fitF_42 (c first:Int):fitF c 42 first=true:=if_pos rfl
theorem dZl (stk:List Int) (f n:Nat) (h:0<n):aZM stk f n=stk.getD f 0:=if_pos h
theorem fits_two (stk:List Int) (h:2≤stk.length):aZA stk (stk.length - 2) ⟨#[66,66]⟩ (aZM stk (stk.length - 2) 2) 2 0=decide ((stk.getD (stk.length - 1) 0=1∨stk.getD (stk.length - 1) 0=2)∧stk.getD (stk.length - 2) 0=stk.getD (stk.length - 1) 0):=by
 have e0:bt ⟨#[66,66]⟩ ((0:Nat):Int)=66:=by decide
 have e1:bt ⟨#[66,66]⟩ ((1:Nat):Int)=66:=by decide
 rw [aZA,aZA,aZA,e0,Nat.zero_add,e1,hZb,hZb,dZl _ _ _ (by decide),Nat.add_zero,show stk.length - 2+1=stk.length - 1 by omega]
 generalize stk.getD (stk.length - 1) 0=a
 generalize stk.getD (stk.length - 2) 0=b
 by_cases hab:b=a
 ·
  subst hab
  by_cases hb:b=1∨b=2 <;> simp [hb]
 ·
  have hba:¬a=b:=fun h=>hab h.symm
  by_cases hb:b=1∨b=2 <;> simp [hb,hab,hba]
theorem fits_one (stk:List Int) (h:1≤stk.length):aZA stk (stk.length - 1) ⟨#[66]⟩ (aZM stk (stk.length - 1) 1) 1 0=decide (stk.getD (stk.length - 1) 0=1∨stk.getD (stk.length - 1) 0=2):=by
 have e0:bt ⟨#[66]⟩ ((0:Nat):Int)=66:=by decide
 rw [aZA,aZA,e0,hZb,dZl _ _ _ (by decide),Nat.add_zero]
 generalize stk.getD (stk.length - 1) 0=a
 by_cases hb:a=1∨a=2 <;> simp [hb]
theorem hZg (x:S66) (stk loc:List Int) (h1:1≤x.f0) (h2:x.f0≤36) (hu:bt (aZg rowsL x.f0).f0 0=117→x.f1=0∨x.f1=1) (hn:0≤loc.getD x.f1.toNat 0):eZT (aZg rowsL x.f0) x stk loc=aZS x stk loc:=by
 by_cases h26:x.f0≤26
 ·
  obtain ⟨e1,e2,e3,e4,e5,e6,e7,e8⟩:=hZd x.f0 x.f1 h1 h26 hu
  obtain ⟨q1,q2⟩:=eff_rows x.f0 x.f1 h1 h26 hu
  refine fZs x _ stk loc (by omega) e2 (by rw [q1]) (fun first=>?_)
  unfold putF
  rw [if_neg e3,if_neg e4,if_neg e5,q1]
  unfold cZz
  rw [if_pos q2]
 by_cases h36:x.f0=36
 ·
  have hr1:(aZg rowsL x.f0).f1=⟨#[78]⟩:=by rw [h36];decide +kernel
  have hr2:(aZg rowsL x.f0).f2=⟨#[]⟩:=by rw [h36];decide +kernel
  have he:effF x.f0 x.f1=([1],0):=by rw [h36];rfl
  refine fZs x _ stk loc (by omega) (by rw [hr1];decide) (by rw [he,hr1];decide) (fun first=>?_)
  unfold putF
  rw [hr2,if_pos rfl,if_neg (by omega),he]
  simp [cZz]
 have h27:27≤x.f0∧x.f0≤35:=by omega
 have two:(x.f0=27∨x.f0=28∨x.f0=29)→(aZg rowsL x.f0).f1=⟨#[66,66]⟩→(aZg rowsL x.f0).f2=⟨#[61]⟩→eZT (aZg rowsL x.f0) x stk loc=aZS x stk loc:=by
  intro h r1 r2
  unfold eZT aZS dZb
  rw [r1,r2,show ByteArray.size ⟨#[66,66]⟩=2 from rfl,if_pos h27,if_pos h]
  by_cases hl:stk.length<2
  · rw [if_pos hl,if_pos hl]
  ·
   rw [if_neg hl,if_neg hl,fits_two stk (by omega),dZl _ _ _ (by decide)]
   generalize stk.getD (stk.length - 1) 0=a
   generalize stk.getD (stk.length - 2) 0=b
   by_cases hq:(a=1∨a=2)∧b=a
   ·
    rw [if_neg (by simpa using hq),if_neg (by rintro (g|g);exact g hq.1;exact g hq.2)]
    obtain ⟨q1,rfl⟩:=hq
    unfold putF cZz
    rw [if_neg (by decide),if_pos rfl]
    dsimp only
    rw [if_pos (by omega),if_neg (by omega)]
   ·
    rw [if_pos (by simpa using hq), if_pos (by
     by_cases g:a=1∨a=2
     · exact .inr (fun g2=>hq ⟨g,g2⟩)
     · exact .inl g)]
 have one:(aZg rowsL x.f0).f1=⟨#[66]⟩→x.f0≠35→¬(x.f0=27∨x.f0=28∨x.f0=29)→x.f0≠32→(∀ a,(a=1∨a=2)→putF (aZg rowsL x.f0).f2 x (stk.take (stk.length - 1)) loc a=.ok (stk.take (stk.length - 1)++cZz (if x.f0=31 then 0 else a),if x.f0=31 then loc.set x.f1.toNat a else loc))→eZT (aZg rowsL x.f0) x stk loc=aZS x stk loc:=by
  intro r1 n35 n27 n32 hput
  unfold eZT aZS dZb
  rw [r1,show ByteArray.size ⟨#[66]⟩=1 from rfl,if_pos h27,if_neg n27,if_neg n32,if_neg n35]
  by_cases hl:stk.length<1
  · rw [if_pos hl,if_pos hl]
  ·
   rw [if_neg hl,if_neg hl,fits_one stk (by omega),dZl _ _ _ (by decide)]
   have hput:=hput (stk.getD (stk.length - 1) 0)
   generalize stk.getD (stk.length - 1) 0=a at hput ⊢
   by_cases hq:a=1∨a=2
   ·
    rw [if_neg (by rw [decide_eq_true hq];decide),if_neg (fun g=>g hq),hput hq]
    by_cases h31:x.f0=31
    · simp only [if_pos h31]
    · simp only [if_neg h31]
   · rw [if_pos (decide_eq_false hq),if_pos hq]
 have hcases:x.f0=27∨x.f0=28∨x.f0=29∨x.f0=30∨x.f0=31∨x.f0=32∨x.f0=33∨x.f0=34∨x.f0=35:=by omega
 have puts:x.f0≠31→(aZg rowsL x.f0).f2=⟨#[61]⟩→∀ a,(a=1∨a=2)→putF (aZg rowsL x.f0).f2 x (stk.take (stk.length - 1)) loc a=.ok (stk.take (stk.length - 1)++cZz (if x.f0=31 then 0 else a),if x.f0=31 then loc.set x.f1.toNat a else loc):=by
  intro h r2 a ha
  unfold putF cZz
  rw [r2,if_neg (by decide),if_pos rfl,if_neg h,if_neg h,if_pos (by omega)]
 rcases hcases with h|h|h|h|h|h|h|h|h
 · exact two (by omega) (by rw [h];decide +kernel) (by rw [h];decide +kernel)
 · exact two (by omega) (by rw [h];decide +kernel) (by rw [h];decide +kernel)
 · exact two (by omega) (by rw [h];decide +kernel) (by rw [h];decide +kernel)
 · exact one (by rw [h];decide +kernel) (by omega) (by omega) (by omega) (puts (by omega) (by rw [h];decide +kernel))
 ·
  refine one (by rw [h];decide +kernel) (by omega) (by omega) (by omega) (fun a ha=>?_)
  have hr2:(aZg rowsL x.f0).f2=⟨#[]⟩:=by rw [h];decide +kernel
  unfold putF cZz
  rw [hr2,if_pos rfl,if_pos h,if_pos h,if_neg (by decide),List.append_nil]
 ·
  have hr1:(aZg rowsL x.f0).f1=⟨#[]⟩:=by rw [h];decide +kernel
  have hr2:(aZg rowsL x.f0).f2=⟨#[76]⟩:=by rw [h];decide +kernel
  unfold eZT aZS dZb
  have n27:¬(x.f0=27∨x.f0=28∨x.f0=29):=by omega
  rw [hr1,hr2,show ByteArray.size ⟨#[]⟩=0 from rfl,if_pos h27,if_neg n27,if_pos h,if_neg (Nat.not_lt_zero _),aZA,if_neg (by decide)]
  unfold putF
  rw [if_neg (by decide),if_neg (by decide),if_pos rfl]
  by_cases hz:loc.getD x.f1.toNat 0=0
  · rw [if_pos hz,if_pos hz]
  ·
   rw [if_neg hz,if_neg hz]
   unfold cZz
   dsimp only
   rw [if_pos (by omega),if_neg (by omega)]
 · exact one (by rw [h];decide +kernel) (by omega) (by omega) (by omega) (puts (by omega) (by rw [h];decide +kernel))
 · exact one (by rw [h];decide +kernel) (by omega) (by omega) (by omega) (puts (by omega) (by rw [h];decide +kernel))
 ·
  have hr1:(aZg rowsL x.f0).f1=⟨#[42]⟩:=by rw [h];decide +kernel
  have hr2:(aZg rowsL x.f0).f2=⟨#[]⟩:=by rw [h];decide +kernel
  unfold eZT aZS dZb
  have n27:¬(x.f0=27∨x.f0=28∨x.f0=29):=by omega
  have n32:¬x.f0=32:=by omega
  rw [hr1,hr2,show ByteArray.size ⟨#[42]⟩=1 from rfl,if_pos h27,if_neg n27,if_neg n32]
  by_cases hl:stk.length<1
  · rw [if_pos hl,if_pos hl]
  ·
   have e0:bt ⟨#[42]⟩ ((0:Nat):Int)=42:=by decide
   rw [if_neg hl,if_neg hl,if_pos h,aZA,aZA,e0,fitF_42,if_neg (by decide)]
   have n31:¬x.f0=31:=by omega
   unfold putF cZz
   rw [if_pos rfl,if_neg n31]
   simp only [if_neg n31]
   rw [if_neg (by decide),List.append_nil]
end Go.Proofs.Ytbnplhmmbnmagaa.D
