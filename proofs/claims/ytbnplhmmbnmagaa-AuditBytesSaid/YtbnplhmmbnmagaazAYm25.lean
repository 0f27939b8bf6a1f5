/- The reference's reader: instr (printed by gen_k5.py). -/
import Derived.Test.YtbnplhmmbnmagaazAYm24
import Derived.Test.YtbnplhmmbnmagaazAYm22
set_option maxHeartbeats 4000000
set_option maxRecDepth 100000
set_option linter.unusedVariables false
set_option linter.unusedSimpArgs false
namespace Go.Proofs.Ytbnplhmmbnmagaa.D
open Go.RowKit Go.Proofs.YtbnplhmmbnmagaaW.PrintWords Go.Proofs.YtbnplhmmbnmagaaW.PrintLast Go.Proofs.YtbnplhmmbnmagaaW.PrintMore Go.Proofs.Ytbnplhmmbnmagaa.All
set_option linter.unusedSectionVars false
def setX (W:World) (X:Nat) (a b c d:Value):World:=(((W.setCell ⟨X,0,none⟩ a).setCell ⟨X,1,none⟩ b).setCell ⟨X,2,none⟩ c).setCell ⟨X,3,none⟩ d
structure StX (w0 w W:World) (g:Nat) (bs:List Int) (p k b op n1 n2 n3:Int):Prop where
  rd:IsS136 w0 W g bs p k b
  below:Below w0.heap.size w0 W
  keep:KeepBut w W g none
  z:W.heap[w.heap.size]?=some (.cells #[.int .i64 0,.int .i64 0,.int .i64 0,.int .i64 0] 66 (0,0))
  x:W.heap[w.heap.size+1]?=some (.cells #[.int .i64 op,.int .i64 n1,.int .i64 n2,.int .i64 n3] 66 (0,0))
theorem dZa {w W:World} {g:Nat} (h:KeepBut w W g none) {a:Addr} (ha:w.heap.size≤a.block∨a.block=g) (u:Value):KeepBut w (W.setCell a u) g none :=
  ⟨by have:=h.1;simpa using this,fun k hk h1 h2=>(Below.heap_setCell _ _ _ _ (by rcases ha with h|h <;> omega)).trans (h.2 k hk h1 h2)⟩
section
variable {w0 w W W2:World} {g:Nat} {bs:List Int} {p k b op n1 n2 n3:Int}
theorem StX.call (h:StX w0 w W g bs p k b op n1 n2 n3) (hgl:g<w.heap.size) {p2 k2 b2:Int} (hI:IsS136 w0 W2 g bs p2 k2 b2) (hB:Below w0.heap.size w0 W2) (hK:KeepBut W W2 g none):StX w0 w W2 g bs p2 k2 b2 op n1 n2 n3 :=
  ⟨hI,hB,KeepBut.trans' h.keep hK,(hK.2 _ (aZd h.z) (by omega) (by simp)).trans h.z,(hK.2 _ (aZd h.x) (by omega) (by simp)).trans h.x⟩
theorem StX.drewN (h:StX w0 w W g bs p k b op n1 n2 n3) (n:Nat):StX w0 w (W.drewN n) g bs p k b op n1 n2 n3:=⟨h.rd.drewN n,aZa h.below n,h.keep,h.z,h.x⟩
theorem StX.drew (h:StX w0 w W g bs p k b op n1 n2 n3):StX w0 w W.drew g bs p k b op n1 n2 n3:=⟨h.rd.drew,h.below.drew,h.keep,h.z,h.x⟩
theorem StX.at_ (h:StX w0 w W g bs p k b op n1 n2 n3) (hgl:g<w.heap.size) (q:Int):StX w0 w (W.setCell ⟨g,1,none⟩ (.int .i64 q)) g bs q k b op n1 n2 n3 :=
  ⟨h.rd.set_1 q,h.below.setCell (show w0.heap.size≤g from h.rd.ge) _,dZa h.keep (.inr rfl) _,(Below.heap_setCell _ _ _ _ (by show w.heap.size≠g;omega)).trans h.z,(Below.heap_setCell _ _ _ _ (by show w.heap.size+1≠g;omega)).trans h.x⟩
theorem StX.setx (h:StX w0 w W g bs p k b op n1 n2 n3) (hw:w0.heap.size≤w.heap.size) (hgl:g<w.heap.size) (j:Nat) (v op2 m1 m2 m3:Int) (hj:((#[.int .i64 op,.int .i64 n1,.int .i64 n2,.int .i64 n3]:Array Value).set! j (.int .i64 v))=#[.int .i64 op2,.int .i64 m1,.int .i64 m2,.int .i64 m3]):StX w0 w (W.setCell ⟨w.heap.size+1,j,none⟩ (.int .i64 v)) g bs p k b op2 m1 m2 m3 :=
  ⟨h.rd.far (by show g ≠ w.heap.size + 1; omega) _, h.below.setCell (show w0.heap.size ≤ w.heap.size + 1 by omega) _, dZa h.keep (.inl (show w.heap.size ≤ w.heap.size + 1 by omega)) _, (Below.heap_setCell _ _ _ _ (by show w.heap.size ≠ w.heap.size + 1; omega)).trans h.z, by
    rw [←hj]
    simp [World.setCell,h.x,Array.getElem?_modify]⟩
theorem StX.done (h:StX w0 w W g bs p k b op n1 n2 n3) (hw:w0.heap.size≤w.heap.size) (hgl:g<w.heap.size) (a c d e:Value) :
 IsS136 w0 (setX W w.heap.size a c d e) g bs p k b∧Below w0.heap.size w0 (setX W w.heap.size a c d e)∧KeepBut w (setX W w.heap.size a c d e) g none∧(setX W w.heap.size a c d e).heap[w.heap.size]?=some (.cells #[a,c,d,e] 66 (0,0)):=by
 have hne:g≠w.heap.size:=by omega
 unfold setX
 refine ⟨(((h.rd.far hne _).far hne _).far hne _).far hne _,(((h.below.setCell (show w0.heap.size≤w.heap.size from hw) _).setCell (show w0.heap.size≤w.heap.size from hw) _).setCell (show w0.heap.size≤w.heap.size from hw) _).setCell (show w0.heap.size≤w.heap.size from hw) _,?_,?_⟩
 · exact dZa (dZa (dZa (dZa h.keep (.inl (Nat.le_refl _)) _) (.inl (Nat.le_refl _)) _) (.inl (Nat.le_refl _)) _) (.inl (Nat.le_refl _)) _
 · simp [World.setCell,h.z,Array.getElem?_modify]
theorem StX.facts (h:StX w0 w W g bs p k b op n1 n2 n3):W.cell? ⟨w.heap.size+1,0,none⟩=some (.int .i64 op)∧W.cell? ⟨w.heap.size+1,1,none⟩=some (.int .i64 n1)∧W.cell? ⟨w.heap.size+1,2,none⟩=some (.int .i64 n2)∧W.cell? ⟨w.heap.size+1,3,none⟩=some (.int .i64 n3)∧(∀ i,W.frozen? ⟨w.heap.size+1,i,none⟩=false)∧(∀ i,W.frozen? ⟨w.heap.size,i,none⟩=false)∧W.cell? ⟨w.heap.size,0,none⟩=some (.int .i64 0)∧W.cell? ⟨w.heap.size,1,none⟩=some (.int .i64 0)∧W.cell? ⟨w.heap.size,2,none⟩=some (.int .i64 0)∧W.cell? ⟨w.heap.size,3,none⟩=some (.int .i64 0) :=
  ⟨by simp [World.cell?,h.x],by simp [World.cell?,h.x],by simp [World.cell?,h.x],by simp [World.cell?,h.x],fun i=>by simp [World.frozen?,h.x],fun i=>by simp [World.frozen?,h.z],by simp [World.cell?,h.z],by simp [World.cell?,h.z],by simp [World.cell?,h.z],by simp [World.cell?,h.z]⟩
end
theorem bZe {bs:List Int} {F:Except (Int × Int) (S66 × Int)} {p k b b0 x p2 k2 b2:Int} {G:Int→Int→Except (Int × Int) (S66 × Int)} (h0:k=0→0≤p∧p≤bs.length∧b=b0∧(match aZm bs p 0 65535 with | .error f=>.error f | .ok (a,q)=>G a q)=F) (h1:k≠0→F=.error (k,b)) (hs:Stk p k b (aZm bs p 0 65535) x p2 k2 b2) :
 (k2=0→0≤p2∧p2≤bs.length∧b2=b0∧G x p2=F)∧(k2≠0→F=.error (k2,b2)):=by
 by_cases hk:k=0
 ·
  obtain ⟨hp0,hp1,hb,hL⟩:=h0 hk
  have h2:=hs.1 hk
  cases hc:aZm bs p 0 65535 with
  | error f =>
   obtain ⟨kk,q⟩:=f
   rw [hc] at h2 hL
   obtain ⟨rfl,rfl⟩:=h2
   have:=(aZu bs 0 65535 p hp0 hp1).1 _ _ hc
   exact ⟨fun h=>by omega,fun _=>hL.symm⟩
  | ok y =>
   obtain ⟨y,q⟩:=y
   rw [hc] at h2 hL
   obtain ⟨rfl,rfl,rfl,rfl⟩:=h2
   have:=aZt hc
   exact ⟨fun _=>⟨by omega,by omega,hb,hL⟩,fun h=>absurd rfl h⟩
 ·
  obtain ⟨rfl,rfl,rfl⟩:=hs.2 hk
  exact ⟨fun h=>absurd h hk,fun _=>h1 hk⟩
theorem rInstr (bs:List Int) (hb:bZ3 bs) (hlen:bs.length≤200000000000000) (w0 w:World) (g:Nat) (p k b:Int) (hI:IsS136 w0 w g bs p k b) (hB:Below w0.heap.size w0 w) (h:k=0→0≤p∧p≤bs.length) :
 Calls Try.prog 65 #[.pointer (some ⟨g,0,none⟩)] w (eZO w0 w g bs p k b (aZ9 bs p) (fun x v _=>v=.agg #[.int .i64 x.f0,.int .i64 x.f1,.int .i64 x.f2,.int .i64 x.f3])):=by
 have hgl:=hI.lt
 have hw:=hB.size
 have hS:StX w0 w ((w.alloc (.cells #[.int .i64 0,.int .i64 0,.int .i64 0,.int .i64 0] 66)).alloc (.cells #[.int .i64 0,.int .i64 0,.int .i64 0,.int .i64 0] 66)) g bs p k b 0 0 0 0:=by
  refine ⟨(hI.alloc _).alloc _,aZb (aZb hB _) _,⟨by simp;omega,fun j hj _ _=>?_⟩,?_,?_⟩
  · rw [heap_alloc_old _ _ (by simp;omega),heap_alloc_old _ _ hj]
  · rw [heap_alloc_old _ _ (by simp)];exact heap_alloc_new w _
  ·
   have:=heap_alloc_new (w.alloc (.cells #[.int .i64 0,.int .i64 0,.int .i64 0,.int .i64 0] 66)) (.cells #[.int .i64 0,.int .i64 0,.int .i64 0,.int .i64 0] 66)
   simpa using this
 clear hI hB
 obtain ⟨A,c,q0,q1,q2,q3,qz,hc,hC⟩:=aZV hS.rd
 by_cases hk:k=0
 ·
  subst hk
  obtain ⟨hp0,hp1⟩:=h rfl
  go_enter Try.func65,Try.ntmps65
  go_wp2_with (fail)
  generalize ((w.alloc (.cells #[.int .i64 0,.int .i64 0,.int .i64 0,.int .i64 0] 66)).alloc (.cells #[.int .i64 0,.int .i64 0,.int .i64 0,.int .i64 0] 66))=W0 at hS q0 q1 q2 q3 qz ⊢
  have hSd:=hS.drew
  by_cases hge:(bs.length:Int)≤p
  ·
   have e1:aZ9 bs p=.error (201,bs.length):=by unfold aZ9;rw [if_pos hge]
   have HF:=fZs bs w0 W0.drew g p 0 b 201 bs.length hSd.rd hSd.below
   clear q2 q3 qz
   go_region
   go_wp2_with ((with_reducible refine HF.mono ?_);rintro e w2 ⟨rfl,hI2,hB2,hK2⟩;rw [if_pos trivial] at hI2;(have hS2:=hSd.call hgl hI2 hB2 hK2);obtain ⟨y0,y1,y2,y3,yz,zy,v0,v1,v2,v3⟩:=hS2.facts)
   obtain ⟨d1,d2,d3,d4⟩:=hS2.done hw hgl (.int .i64 0) (.int .i64 0) (.int .i64 0) (.int .i64 0)
   refine bodyPost_ret (results_cell_row rfl _ _ w.heap.size _ _ _ _ rfl d4 Try.underlying66 rfl rfl) rfl ?_
   exact ⟨_,⟨0,0,0,0⟩,p,201,bs.length,rfl,rfl,d1,d2,d3,(fun _=>by rw [e1];exact RefOut.err),fun h=>absurd rfl h⟩
  ·
   obtain ⟨ad,rfl,hcell⟩:=Kd.at_int (Kd.C_below hC hS.below) p hp0 (by omega)
   rw [show rd bs p=bs.getD p.toNat 0 from rfl] at hcell
   have hcb:0≤bs.getD p.toNat 0∧bs.getD p.toNat 0≤255:=by
    rw [List.getD_eq_getElem?_getD,List.getElem?_eq_getElem (show p.toNat<bs.length by omega)]
    exact hb _ (List.getElem_mem _)
   have hiF:aZ9 bs p=if bs.getD p.toNat 0<1∨36<bs.getD p.toNat 0 then .error (203,p) else aZH bs (bZD (bs.getD p.toNat 0)) (bs.getD p.toNat 0) 0 0 0 0 (p+1):=by unfold aZ9;rw [if_neg hge]
   have hplt:p<(bs.length:Int):=by omega
   have hC0:bs.length≤c:=hc
   generalize bs.getD p.toNat 0=op at hcell hcb hiF
   have HIF:=hid_ hiF
   clear hiF q2 q3
   go_region
   go_wp2_with (fail)
   go_region
   have hS2:=hS.drew.drew
   by_cases hop:op<1∨36<op
   ·
    have e1:aZ9 bs p=.error (203,p):=by rw [HIF.out,if_pos hop]
    have HF:=fZs bs w0 W0.drew.drew g p 0 b 203 p hS2.rd hS2.below
    have hopA:op<1∨(¬op<1∧36<op):=by omega
    clear hcell hop
    rcases hopA with hopA | ⟨hopA,hopB⟩
    ·
     go_wp2_with ((with_reducible refine HF.mono ?_);rintro e w2 ⟨rfl,hI2,hB2,hK2⟩;rw [if_pos trivial] at hI2;(have hS3:=hS2.call hgl hI2 hB2 hK2);obtain ⟨y0,y1,y2,y3,yz,zy,v0,v1,v2,v3⟩:=hS3.facts)
     obtain ⟨d1,d2,d3,d4⟩:=hS3.done hw hgl (.int .i64 0) (.int .i64 0) (.int .i64 0) (.int .i64 0)
     refine bodyPost_ret (results_cell_row rfl _ _ w.heap.size _ _ _ _ rfl d4 Try.underlying66 rfl rfl) rfl ?_
     exact ⟨_,⟨0,0,0,0⟩,p,203,p,rfl,rfl,d1,d2,d3,(fun _=>by rw [e1];exact RefOut.err),fun h=>absurd rfl h⟩
    ·
     go_wp2_with ((with_reducible refine HF.mono ?_);rintro e w2 ⟨rfl,hI2,hB2,hK2⟩;rw [if_pos trivial] at hI2;(have hS3:=hS2.call hgl hI2 hB2 hK2);obtain ⟨y0,y1,y2,y3,yz,zy,v0,v1,v2,v3⟩:=hS3.facts)
     obtain ⟨d1,d2,d3,d4⟩:=hS3.done hw hgl (.int .i64 0) (.int .i64 0) (.int .i64 0) (.int .i64 0)
     refine bodyPost_ret (results_cell_row rfl _ _ w.heap.size _ _ _ _ rfl d4 Try.underlying66 rfl rfl) rfl ?_
     exact ⟨_,⟨0,0,0,0⟩,p,203,p,rfl,rfl,d1,d2,d3,(fun _=>by rw [e1];exact RefOut.err),fun h=>absurd rfl h⟩
   ·
    have hS3:=hS.at_ hgl (p+1)
    obtain ⟨x0,x1,x2,x3,xz,zz,z0,z1,z2,z3⟩:=hS3.facts
    have hS4:=(hS3.setx hw hgl 0 op op 0 0 0 rfl).drew.drew
    have hop1:¬op<1:=by omega
    have hop2:¬ 36<op:=by omega
    have wp:wrap64 (p+1)=p+1:=bZ4 _ (by omega) (by omega)
    have hu:=hid_ (show aZ9 bs p=aZH bs (bZD op) op 0 0 0 0 (p+1) by rw [HIF.out,if_neg hop])
    clear hcell z0 z1 z2 z3 zz x1 x2 x3 HIF hS2 hSd hS3
    go_wp2_with (fail)
    refine (uses_any _ op (by omega) (by omega)).mono ?_
    rintro e w3 ⟨rfl,⟨nd,rfl⟩⟩
    have hS5:=hS4.drewN nd
    clear hS4 hS x0 xz q0 q1 qz
    generalize World.drewN _ nd=W5 at hS5 ⊢
    have hL0:=hu.out.symm
    have hpa:0≤p+1:=by omega
    have hpb:p+1≤(bs.length:Int):=by omega
    generalize hFF:aZ9 bs p=F at hL0
    have HFF:=hid_ hFF
    clear hFF hu hcb hop hop1 hop2 wp
    generalize bZD op=u at hL0 ⊢
    obtain ⟨u1,u2,u3⟩:=u
    dsimp only
    have HL0:=hid_ hL0
    clear hL0
    cases u1 with
    | false =>
     cases u2 with
     | false =>
      cases u3 with
      | false =>
       obtain ⟨y0,y1,y2,y3,yz,zy,v0,v1,v2,v3⟩:=hS5.facts
       go_wp2_with (fail)
       obtain ⟨d1,d2,d3,d4⟩:=hS5.done hw hgl (.int .i64 op) (.int .i64 0) (.int .i64 0) (.int .i64 0)
       refine bodyPost_ret (results_cell_row rfl _ _ w.heap.size _ _ _ _ rfl d4 Try.underlying66 rfl rfl) rfl ?_
       refine ⟨_,⟨op,0,0,0⟩,(p+1),0,b,rfl,rfl,d1,d2,d3,(fun _=>?_),fun h=>absurd rfl h⟩
       rw [HFF.out]
       rw [show F=.ok (⟨op,0,0,0⟩,p+1) from HL0.out.symm]
       exact RefOut.ok
      | true =>
       obtain ⟨y0,y1,y2,y3,yz,zy,v0,v1,v2,v3⟩:=hS5.facts
       clear y0 y1 y2 y3 v0 v1 v2 v3
       go_wp2_with (fail)
       refine (cZy bs hb hlen w0 W5 g (p+1) 0 b hS5.rd hS5.below (fun _=>⟨hpa,hpb⟩) 0 65535).mono ?_
       rintro e w6 ⟨vv,m3,p6,k6,b6,rfl,rfl,hI6,hB6,hK6,hs6⟩
       obtain ⟨tgo1,tbo1⟩:=bZe (G:=fun a q=>aZH bs (false,false,true) op 3 0 0 a q) (F:=F) (b0:=b) (fun _=>⟨hpa,hpb,rfl,HL0.out⟩) (fun h=>absurd rfl h) hs6
       have tg1:=hid_ tgo1
       have tb1:=hid_ tbo1
       clear tgo1 tbo1
       have hC1:=(hS5.call hgl hI6 hB6 hK6)
       clear yz zy
       obtain ⟨y0,y1,y2,y3,yz1,zy1,v0,v1,v2,v3⟩:=hC1.facts
       have hX1:=hC1.setx hw hgl 3 m3 op 0 0 m3 rfl
       clear y0 y1 y2 v0 v1 v2 v3
       obtain ⟨g0,g1,g2,g3,gz,gy,r0,r1,r2,r3⟩:=hX1.facts
       go_wp2_with (fail)
       obtain ⟨d1,d2,d3,d4⟩:=hX1.done hw hgl (.int .i64 op) (.int .i64 0) (.int .i64 0) (.int .i64 m3)
       refine bodyPost_ret (results_cell_row rfl _ _ w.heap.size _ _ _ _ rfl d4 Try.underlying66 rfl rfl) rfl ?_
       refine ⟨_,⟨op,0,0,m3⟩,p6,k6,b6,rfl,rfl,d1,d2,d3,(fun _=>?_),fun h=>absurd rfl h⟩
       rw [HFF.out]
       by_cases hkk:(k6:Int)=0
       ·
        obtain ⟨_,_,e1,e2⟩:=tg1.out hkk
        rw [←e2]
        exact ⟨rfl,rfl,hkk,e1⟩
       ·
        rw [tb1.out hkk]
        exact ⟨rfl,rfl⟩
     | true =>
      cases u3 with
      | false =>
       obtain ⟨y0,y1,y2,y3,yz,zy,v0,v1,v2,v3⟩:=hS5.facts
       clear y0 y1 y2 y3 v0 v1 v2 v3
       go_wp2_with (fail)
       refine (cZy bs hb hlen w0 W5 g (p+1) 0 b hS5.rd hS5.below (fun _=>⟨hpa,hpb⟩) 0 65535).mono ?_
       rintro e w6 ⟨vv,m2,p6,k6,b6,rfl,rfl,hI6,hB6,hK6,hs6⟩
       obtain ⟨tgo1,tbo1⟩:=bZe (G:=fun a q=>aZH bs (false,true,false) op 2 0 a 0 q) (F:=F) (b0:=b) (fun _=>⟨hpa,hpb,rfl,HL0.out⟩) (fun h=>absurd rfl h) hs6
       have tg1:=hid_ tgo1
       have tb1:=hid_ tbo1
       clear tgo1 tbo1
       have hC1:=(hS5.call hgl hI6 hB6 hK6)
       clear yz zy
       obtain ⟨y0,y1,y2,y3,yz1,zy1,v0,v1,v2,v3⟩:=hC1.facts
       have hX1:=hC1.setx hw hgl 2 m2 op 0 m2 0 rfl
       clear y0 y1 y3 v0 v1 v2 v3
       obtain ⟨g0,g1,g2,g3,gz,gy,r0,r1,r2,r3⟩:=hX1.facts
       go_wp2_with (fail)
       obtain ⟨d1,d2,d3,d4⟩:=hX1.done hw hgl (.int .i64 op) (.int .i64 0) (.int .i64 m2) (.int .i64 0)
       refine bodyPost_ret (results_cell_row rfl _ _ w.heap.size _ _ _ _ rfl d4 Try.underlying66 rfl rfl) rfl ?_
       refine ⟨_,⟨op,0,m2,0⟩,p6,k6,b6,rfl,rfl,d1,d2,d3,(fun _=>?_),fun h=>absurd rfl h⟩
       rw [HFF.out]
       by_cases hkk:(k6:Int)=0
       ·
        obtain ⟨_,_,e1,e2⟩:=tg1.out hkk
        rw [←e2]
        exact ⟨rfl,rfl,hkk,e1⟩
       ·
        rw [tb1.out hkk]
        exact ⟨rfl,rfl⟩
      | true =>
       obtain ⟨y0,y1,y2,y3,yz,zy,v0,v1,v2,v3⟩:=hS5.facts
       clear y0 y1 y2 y3 v0 v1 v2 v3
       go_wp2_with (fail)
       refine (cZy bs hb hlen w0 W5 g (p+1) 0 b hS5.rd hS5.below (fun _=>⟨hpa,hpb⟩) 0 65535).mono ?_
       rintro e w6 ⟨vv,m2,p6,k6,b6,rfl,rfl,hI6,hB6,hK6,hs6⟩
       obtain ⟨tgo1,tbo1⟩:=bZe (G:=fun a q=>aZH bs (false,true,true) op 2 0 a 0 q) (F:=F) (b0:=b) (fun _=>⟨hpa,hpb,rfl,HL0.out⟩) (fun h=>absurd rfl h) hs6
       have tg1:=hid_ tgo1
       have tb1:=hid_ tbo1
       clear tgo1 tbo1
       have hC1:=(hS5.call hgl hI6 hB6 hK6)
       clear yz zy
       obtain ⟨y0,y1,y2,y3,yz1,zy1,v0,v1,v2,v3⟩:=hC1.facts
       have hX1:=hC1.setx hw hgl 2 m2 op 0 m2 0 rfl
       clear y0 y1 y3 v0 v1 v2 v3
       go_wp2_with (fail)
       refine (cZy bs hb hlen w0 (w6.setCell ⟨w.heap.size+1,2,none⟩ (.int .i64 m2)) g p6 k6 b6 hX1.rd hX1.below (fun hk=>⟨(tg1.out hk).1,(tg1.out hk).2.1⟩) 0 65535).mono ?_
       rintro e w7 ⟨vv,m3,p7,k7,b7,rfl,rfl,hI7,hB7,hK7,hs7⟩
       obtain ⟨tgo2,tbo2⟩:=bZe (G:=fun a q=>aZH bs (false,true,true) op 3 0 m2 a q) (F:=F) (b0:=b) (tg1.out) (tb1.out) hs7
       have tg2:=hid_ tgo2
       have tb2:=hid_ tbo2
       clear tgo2 tbo2
       have hC2:=(hX1.call hgl hI7 hB7 hK7)
       clear y2 yz1 zy1
       obtain ⟨y0,y1,y2,y3,yz2,zy2,v0,v1,v2,v3⟩:=hC2.facts
       have hX2:=hC2.setx hw hgl 3 m3 op 0 m2 m3 rfl
       clear y0 y1 y2 v0 v1 v2 v3
       obtain ⟨g0,g1,g2,g3,gz,gy,r0,r1,r2,r3⟩:=hX2.facts
       go_wp2_with (fail)
       obtain ⟨d1,d2,d3,d4⟩:=hX2.done hw hgl (.int .i64 op) (.int .i64 0) (.int .i64 m2) (.int .i64 m3)
       refine bodyPost_ret (results_cell_row rfl _ _ w.heap.size _ _ _ _ rfl d4 Try.underlying66 rfl rfl) rfl ?_
       refine ⟨_,⟨op,0,m2,m3⟩,p7,k7,b7,rfl,rfl,d1,d2,d3,(fun _=>?_),fun h=>absurd rfl h⟩
       rw [HFF.out]
       by_cases hkk:(k7:Int)=0
       ·
        obtain ⟨_,_,e1,e2⟩:=tg2.out hkk
        rw [←e2]
        exact ⟨rfl,rfl,hkk,e1⟩
       ·
        rw [tb2.out hkk]
        exact ⟨rfl,rfl⟩
    | true =>
     cases u2 with
     | false =>
      cases u3 with
      | false =>
       obtain ⟨y0,y1,y2,y3,yz,zy,v0,v1,v2,v3⟩:=hS5.facts
       clear y0 y1 y2 y3 v0 v1 v2 v3
       go_wp2_with (fail)
       refine (cZy bs hb hlen w0 W5 g (p+1) 0 b hS5.rd hS5.below (fun _=>⟨hpa,hpb⟩) 0 65535).mono ?_
       rintro e w6 ⟨vv,m1,p6,k6,b6,rfl,rfl,hI6,hB6,hK6,hs6⟩
       obtain ⟨tgo1,tbo1⟩:=bZe (G:=fun a q=>aZH bs (true,false,false) op 1 a 0 0 q) (F:=F) (b0:=b) (fun _=>⟨hpa,hpb,rfl,HL0.out⟩) (fun h=>absurd rfl h) hs6
       have tg1:=hid_ tgo1
       have tb1:=hid_ tbo1
       clear tgo1 tbo1
       have hC1:=(hS5.call hgl hI6 hB6 hK6)
       clear yz zy
       obtain ⟨y0,y1,y2,y3,yz1,zy1,v0,v1,v2,v3⟩:=hC1.facts
       have hX1:=hC1.setx hw hgl 1 m1 op m1 0 0 rfl
       clear y0 y2 y3 v0 v1 v2 v3
       obtain ⟨g0,g1,g2,g3,gz,gy,r0,r1,r2,r3⟩:=hX1.facts
       go_wp2_with (fail)
       obtain ⟨d1,d2,d3,d4⟩:=hX1.done hw hgl (.int .i64 op) (.int .i64 m1) (.int .i64 0) (.int .i64 0)
       refine bodyPost_ret (results_cell_row rfl _ _ w.heap.size _ _ _ _ rfl d4 Try.underlying66 rfl rfl) rfl ?_
       refine ⟨_,⟨op,m1,0,0⟩,p6,k6,b6,rfl,rfl,d1,d2,d3,(fun _=>?_),fun h=>absurd rfl h⟩
       rw [HFF.out]
       by_cases hkk:(k6:Int)=0
       ·
        obtain ⟨_,_,e1,e2⟩:=tg1.out hkk
        rw [←e2]
        exact ⟨rfl,rfl,hkk,e1⟩
       ·
        rw [tb1.out hkk]
        exact ⟨rfl,rfl⟩
      | true =>
       obtain ⟨y0,y1,y2,y3,yz,zy,v0,v1,v2,v3⟩:=hS5.facts
       clear y0 y1 y2 y3 v0 v1 v2 v3
       go_wp2_with (fail)
       refine (cZy bs hb hlen w0 W5 g (p+1) 0 b hS5.rd hS5.below (fun _=>⟨hpa,hpb⟩) 0 65535).mono ?_
       rintro e w6 ⟨vv,m1,p6,k6,b6,rfl,rfl,hI6,hB6,hK6,hs6⟩
       obtain ⟨tgo1,tbo1⟩:=bZe (G:=fun a q=>aZH bs (true,false,true) op 1 a 0 0 q) (F:=F) (b0:=b) (fun _=>⟨hpa,hpb,rfl,HL0.out⟩) (fun h=>absurd rfl h) hs6
       have tg1:=hid_ tgo1
       have tb1:=hid_ tbo1
       clear tgo1 tbo1
       have hC1:=(hS5.call hgl hI6 hB6 hK6)
       clear yz zy
       obtain ⟨y0,y1,y2,y3,yz1,zy1,v0,v1,v2,v3⟩:=hC1.facts
       have hX1:=hC1.setx hw hgl 1 m1 op m1 0 0 rfl
       clear y0 y2 y3 v0 v1 v2 v3
       go_wp2_with (fail)
       refine (cZy bs hb hlen w0 (w6.setCell ⟨w.heap.size+1,1,none⟩ (.int .i64 m1)) g p6 k6 b6 hX1.rd hX1.below (fun hk=>⟨(tg1.out hk).1,(tg1.out hk).2.1⟩) 0 65535).mono ?_
       rintro e w7 ⟨vv,m3,p7,k7,b7,rfl,rfl,hI7,hB7,hK7,hs7⟩
       obtain ⟨tgo2,tbo2⟩:=bZe (G:=fun a q=>aZH bs (true,false,true) op 3 m1 0 a q) (F:=F) (b0:=b) (tg1.out) (tb1.out) hs7
       have tg2:=hid_ tgo2
       have tb2:=hid_ tbo2
       clear tgo2 tbo2
       have hC2:=(hX1.call hgl hI7 hB7 hK7)
       clear y1 yz1 zy1
       obtain ⟨y0,y1,y2,y3,yz2,zy2,v0,v1,v2,v3⟩:=hC2.facts
       have hX2:=hC2.setx hw hgl 3 m3 op m1 0 m3 rfl
       clear y0 y1 y2 v0 v1 v2 v3
       obtain ⟨g0,g1,g2,g3,gz,gy,r0,r1,r2,r3⟩:=hX2.facts
       go_wp2_with (fail)
       obtain ⟨d1,d2,d3,d4⟩:=hX2.done hw hgl (.int .i64 op) (.int .i64 m1) (.int .i64 0) (.int .i64 m3)
       refine bodyPost_ret (results_cell_row rfl _ _ w.heap.size _ _ _ _ rfl d4 Try.underlying66 rfl rfl) rfl ?_
       refine ⟨_,⟨op,m1,0,m3⟩,p7,k7,b7,rfl,rfl,d1,d2,d3,(fun _=>?_),fun h=>absurd rfl h⟩
       rw [HFF.out]
       by_cases hkk:(k7:Int)=0
       ·
        obtain ⟨_,_,e1,e2⟩:=tg2.out hkk
        rw [←e2]
        exact ⟨rfl,rfl,hkk,e1⟩
       ·
        rw [tb2.out hkk]
        exact ⟨rfl,rfl⟩
     | true =>
      cases u3 with
      | false =>
       obtain ⟨y0,y1,y2,y3,yz,zy,v0,v1,v2,v3⟩:=hS5.facts
       clear y0 y1 y2 y3 v0 v1 v2 v3
       go_wp2_with (fail)
       refine (cZy bs hb hlen w0 W5 g (p+1) 0 b hS5.rd hS5.below (fun _=>⟨hpa,hpb⟩) 0 65535).mono ?_
       rintro e w6 ⟨vv,m1,p6,k6,b6,rfl,rfl,hI6,hB6,hK6,hs6⟩
       obtain ⟨tgo1,tbo1⟩:=bZe (G:=fun a q=>aZH bs (true,true,false) op 1 a 0 0 q) (F:=F) (b0:=b) (fun _=>⟨hpa,hpb,rfl,HL0.out⟩) (fun h=>absurd rfl h) hs6
       have tg1:=hid_ tgo1
       have tb1:=hid_ tbo1
       clear tgo1 tbo1
       have hC1:=(hS5.call hgl hI6 hB6 hK6)
       clear yz zy
       obtain ⟨y0,y1,y2,y3,yz1,zy1,v0,v1,v2,v3⟩:=hC1.facts
       have hX1:=hC1.setx hw hgl 1 m1 op m1 0 0 rfl
       clear y0 y2 y3 v0 v1 v2 v3
       go_wp2_with (fail)
       refine (cZy bs hb hlen w0 (w6.setCell ⟨w.heap.size+1,1,none⟩ (.int .i64 m1)) g p6 k6 b6 hX1.rd hX1.below (fun hk=>⟨(tg1.out hk).1,(tg1.out hk).2.1⟩) 0 65535).mono ?_
       rintro e w7 ⟨vv,m2,p7,k7,b7,rfl,rfl,hI7,hB7,hK7,hs7⟩
       obtain ⟨tgo2,tbo2⟩:=bZe (G:=fun a q=>aZH bs (true,true,false) op 2 m1 a 0 q) (F:=F) (b0:=b) (tg1.out) (tb1.out) hs7
       have tg2:=hid_ tgo2
       have tb2:=hid_ tbo2
       clear tgo2 tbo2
       have hC2:=(hX1.call hgl hI7 hB7 hK7)
       clear y1 yz1 zy1
       obtain ⟨y0,y1,y2,y3,yz2,zy2,v0,v1,v2,v3⟩:=hC2.facts
       have hX2:=hC2.setx hw hgl 2 m2 op m1 m2 0 rfl
       clear y0 y1 y3 v0 v1 v2 v3
       obtain ⟨g0,g1,g2,g3,gz,gy,r0,r1,r2,r3⟩:=hX2.facts
       go_wp2_with (fail)
       obtain ⟨d1,d2,d3,d4⟩:=hX2.done hw hgl (.int .i64 op) (.int .i64 m1) (.int .i64 m2) (.int .i64 0)
       refine bodyPost_ret (results_cell_row rfl _ _ w.heap.size _ _ _ _ rfl d4 Try.underlying66 rfl rfl) rfl ?_
       refine ⟨_,⟨op,m1,m2,0⟩,p7,k7,b7,rfl,rfl,d1,d2,d3,(fun _=>?_),fun h=>absurd rfl h⟩
       rw [HFF.out]
       by_cases hkk:(k7:Int)=0
       ·
        obtain ⟨_,_,e1,e2⟩:=tg2.out hkk
        rw [←e2]
        exact ⟨rfl,rfl,hkk,e1⟩
       ·
        rw [tb2.out hkk]
        exact ⟨rfl,rfl⟩
      | true =>
       obtain ⟨y0,y1,y2,y3,yz,zy,v0,v1,v2,v3⟩:=hS5.facts
       clear y0 y1 y2 y3 v0 v1 v2 v3
       go_wp2_with (fail)
       refine (cZy bs hb hlen w0 W5 g (p+1) 0 b hS5.rd hS5.below (fun _=>⟨hpa,hpb⟩) 0 65535).mono ?_
       rintro e w6 ⟨vv,m1,p6,k6,b6,rfl,rfl,hI6,hB6,hK6,hs6⟩
       obtain ⟨tgo1,tbo1⟩:=bZe (G:=fun a q=>aZH bs (true,true,true) op 1 a 0 0 q) (F:=F) (b0:=b) (fun _=>⟨hpa,hpb,rfl,HL0.out⟩) (fun h=>absurd rfl h) hs6
       have tg1:=hid_ tgo1
       have tb1:=hid_ tbo1
       clear tgo1 tbo1
       have hC1:=(hS5.call hgl hI6 hB6 hK6)
       clear yz zy
       obtain ⟨y0,y1,y2,y3,yz1,zy1,v0,v1,v2,v3⟩:=hC1.facts
       have hX1:=hC1.setx hw hgl 1 m1 op m1 0 0 rfl
       clear y0 y2 y3 v0 v1 v2 v3
       go_wp2_with (fail)
       refine (cZy bs hb hlen w0 (w6.setCell ⟨w.heap.size+1,1,none⟩ (.int .i64 m1)) g p6 k6 b6 hX1.rd hX1.below (fun hk=>⟨(tg1.out hk).1,(tg1.out hk).2.1⟩) 0 65535).mono ?_
       rintro e w7 ⟨vv,m2,p7,k7,b7,rfl,rfl,hI7,hB7,hK7,hs7⟩
       obtain ⟨tgo2,tbo2⟩:=bZe (G:=fun a q=>aZH bs (true,true,true) op 2 m1 a 0 q) (F:=F) (b0:=b) (tg1.out) (tb1.out) hs7
       have tg2:=hid_ tgo2
       have tb2:=hid_ tbo2
       clear tgo2 tbo2
       have hC2:=(hX1.call hgl hI7 hB7 hK7)
       clear y1 yz1 zy1
       obtain ⟨y0,y1,y2,y3,yz2,zy2,v0,v1,v2,v3⟩:=hC2.facts
       have hX2:=hC2.setx hw hgl 2 m2 op m1 m2 0 rfl
       clear y0 y1 y3 v0 v1 v2 v3
       go_wp2_with (fail)
       refine (cZy bs hb hlen w0 (w7.setCell ⟨w.heap.size+1,2,none⟩ (.int .i64 m2)) g p7 k7 b7 hX2.rd hX2.below (fun hk=>⟨(tg2.out hk).1,(tg2.out hk).2.1⟩) 0 65535).mono ?_
       rintro e w8 ⟨vv,m3,p8,k8,b8,rfl,rfl,hI8,hB8,hK8,hs8⟩
       obtain ⟨tgo3,tbo3⟩:=bZe (G:=fun a q=>aZH bs (true,true,true) op 3 m1 m2 a q) (F:=F) (b0:=b) (tg2.out) (tb2.out) hs8
       have tg3:=hid_ tgo3
       have tb3:=hid_ tbo3
       clear tgo3 tbo3
       have hC3:=(hX2.call hgl hI8 hB8 hK8)
       clear y2 yz2 zy2
       obtain ⟨y0,y1,y2,y3,yz3,zy3,v0,v1,v2,v3⟩:=hC3.facts
       have hX3:=hC3.setx hw hgl 3 m3 op m1 m2 m3 rfl
       clear y0 y1 y2 v0 v1 v2 v3
       obtain ⟨g0,g1,g2,g3,gz,gy,r0,r1,r2,r3⟩:=hX3.facts
       go_wp2_with (fail)
       obtain ⟨d1,d2,d3,d4⟩:=hX3.done hw hgl (.int .i64 op) (.int .i64 m1) (.int .i64 m2) (.int .i64 m3)
       refine bodyPost_ret (results_cell_row rfl _ _ w.heap.size _ _ _ _ rfl d4 Try.underlying66 rfl rfl) rfl ?_
       refine ⟨_,⟨op,m1,m2,m3⟩,p8,k8,b8,rfl,rfl,d1,d2,d3,(fun _=>?_),fun h=>absurd rfl h⟩
       rw [HFF.out]
       by_cases hkk:(k8:Int)=0
       ·
        obtain ⟨_,_,e1,e2⟩:=tg3.out hkk
        rw [←e2]
        exact ⟨rfl,rfl,hkk,e1⟩
       ·
        rw [tb3.out hkk]
        exact ⟨rfl,rfl⟩
 ·
  have hk1:(k == 0)=false:=by rw [beq_eq_false_iff_ne];exact hk
  go_enter Try.func65,Try.ntmps65
  go_wp2_with (fail)
  refine bodyPost_ret (results_cell_row rfl _ _ w.heap.size _ _ _ _ rfl hS.z Try.underlying66 rfl rfl) rfl ?_
  exact ⟨_,⟨0,0,0,0⟩,p,k,b,rfl,rfl,hS.rd,hS.below,hS.keep,(fun h=>absurd h hk),fun _=>⟨rfl,rfl,rfl⟩⟩
end Go.Proofs.Ytbnplhmmbnmagaa.D
