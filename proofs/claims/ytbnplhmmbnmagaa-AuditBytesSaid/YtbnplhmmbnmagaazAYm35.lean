/- The document's audit: Program and Stacks, in one form. -/
import Derived.Test.YtbnplhmmbnmagaazAYm34
import Derived.Test.YtbnplhmmbnmagaazAYm27
set_option maxHeartbeats 4000000
set_option maxRecDepth 100000
set_option linter.unusedVariables false
set_option linter.unusedSimpArgs false
namespace Go.Proofs.Ytbnplhmmbnmagaa.D
open Go.RowKit Go.Proofs.YtbnplhmmbnmagaaW.PrintWords Go.Proofs.YtbnplhmmbnmagaaW.PrintLast Go.Proofs.YtbnplhmmbnmagaaW.PrintMore Go.Proofs.Ytbnplhmmbnmagaa.All
theorem walk_any (w:World) (A0 A1 A2 A3 A4:Option Addr) (c0 c1 c2 c3 c4:Nat) (g:Pg) (hI:InPg w A0 A1 A2 A3 A4 c0 c1 c2 c3 c4 g) (f:Fits g) :
 Calls Try.prog 31 #[cZs A0 A1 A2 A3 A4 c0 c1 c2 c3 c4 g] w (dZY w (cZr g)):=by
 by_cases hD:aZF g.T.length g.N.length g.S.length g.M.length g.C g.dep g.loc
 · exact dZ0 w A0 A1 A2 A3 A4 c0 c1 c2 c3 c4 g hI f (.inl hD)
 ·
  by_cases hn:g.C.length=0
  · exact dZ0 w A0 A1 A2 A3 A4 c0 c1 c2 c3 c4 g hI f (.inr hn)
  · exact walk_runs w A0 A1 A2 A3 A4 c0 c1 c2 c3 c4 g hI hD hn
theorem walk_says (g:Pg):(∃ i n,bZa g=.error (i,n)∧cZr g=.error (i,n)∧n≠0)∨∃ t m l,bZa g=.ok (t,m)∧cZr g=.ok l∧t=l.map Prod.fst∧m=dZD l∧l.length≤32768∧t.length=g.C.length:=by
  have h:=walk_audit g.T.length g.N.length g.S.length g.M.length g.C g.dep g.loc
  cases ha:bZa g with
  | error x =>
    obtain ⟨i,n⟩:=x
    have ha':aZ1 g.T.length g.N.length g.S.length g.M.length g.C g.dep g.loc=.error (i,n):=ha
    rw [ha'] at h
    exact .inl ⟨i,n,rfl,h,dZX g i n (by rw [ha];rfl)⟩
  | ok x =>
    obtain ⟨t,m⟩:=x
    have ha':aZ1 g.T.length g.N.length g.S.length g.M.length g.C g.dep g.loc=.ok (t,m):=ha
    rw [ha'] at h
    obtain ⟨r,h1,h2,h3⟩:=h
    obtain ⟨-,q2,Z,hZ⟩:=runs_of ha'
    have hl:t.length=g.C.length:=by rw [hZ.told,List.length_map];exact hZ.len
    exact .inr ⟨t,m,r,rfl,h1,h2,h3,by have:t.length=r.length:=(by rw [h2,List.length_map]);omega,hl⟩
theorem refProg_u (w:World) (A0 A1 A2 A3 A4:Option Addr) (c0 c1 c2 c3 c4:Nat) (g:Pg) (hI:InPg w A0 A1 A2 A3 A4 c0 c1 c2 c3 c4 g) (f:Fits g) :
 Calls Try.prog 13 #[cZs A0 A1 A2 A3 A4 c0 c1 c2 c3 c4 g] w fun e w'=>e=.returned (.tuple #[.agg #[.int .i64 (mostR (bZa g)),.int .i64 (stepsR g.C.length (bZa g))],rdV (codeR (errR (bZa g))) (atR (errR (bZa g)))])∧Below w.heap.size w w':=by
 rcases walk_says g with ⟨i,n,ha,hw,hn⟩ | ⟨t,m,l,ha,hw,ht,hm,hl,-⟩
 ·
  refine (prg_err w A0 A1 A2 A3 A4 c0 c1 c2 c3 c4 g hI hn hw (fun W h=>walk_any W A0 A1 A2 A3 A4 c0 c1 c2 c3 c4 g h f)).mono ?_
  rintro e w' ⟨hb,he⟩
  rw [hw] at he
  rw [ha]
  exact ⟨he,hb⟩
 ·
  refine (prg_ok w A0 A1 A2 A3 A4 c0 c1 c2 c3 c4 g hI hw (by omega) (fun W h=>walk_any W A0 A1 A2 A3 A4 c0 c1 c2 c3 c4 g h f)).mono ?_
  rintro e w' ⟨hb,he⟩
  rw [hw] at he
  rw [ha,hm]
  exact ⟨he,hb⟩
def rb.T6:Bool × List (List Nat × List Nat):=(true,[([],[]),([],[]),([],[]),([0,0],[0]),([1,3,0,1,3],[1]),([2,4,0,1,2,3,4],[2])])
def rb.B6:List Nat:=[0,0,0,1,11,31]
theorem rb.tab6:rtab .any (dZf Try.f19 6)=rb.T6:=by kernel_rfl
theorem rb.bits6:cZn rb.T6.2 rb.B6=true:=by kernel_rfl
def rb.T7:Bool × List (List Nat × List Nat):=(true,[([],[]),([],[]),([],[]),([0,0],[0]),([1,3,0,1,3],[1]),([2,4,0,1,2,3,4],[2])])
def rb.B7:List Nat:=[0,0,0,1,11,31]
theorem rb.tab7:rtab .any (dZf Try.f19 7)=rb.T7:=by kernel_rfl
theorem rb.bits7:cZn rb.T7.2 rb.B7=true:=by kernel_rfl
abbrev z7:Array Value:=#[.slice none 0 0,.slice none 0 0,.slice none 0 0,.slice none 0 0,.slice none 0 0,.int .i64 0,.int .i64 0]
theorem results19 (tmps:Array Value) (w:World) (P Q R:Nat) (cs:Array Value) (a b:Value) (n i:Int) (hcs:cs.size=7) (h2:tmps.getD 2 undef=.pointer (some ⟨P,0,none⟩)) (h3:tmps.getD 3 undef=.pointer (some ⟨Q,0,none⟩)) (h4:tmps.getD 4 undef=.pointer (some ⟨R,0,none⟩)) (hP:w.heap[P]?=some (.cells cs 28 (0,0))) (hQ:w.heap[Q]?=some (.cells #[a,b] 31 (0,0))) (hR:w.heap[R]?=some (rdO n i)) :
    (results Try.f19 tmps).run Try.prog w=.ok (.tuple #[.agg cs,.agg #[a,b],rdV n i]) w:=by
  have hl:=run_loadVar_row (P:=Try.prog) w P 28 28 cs (0,0) _ hP Try.underlying28 rfl (by rw [hcs];kernel_rfl)
  have hl2:=run_loadVar_row (P:=Try.prog) w Q 31 31 #[a,b] (0,0) _ hQ Try.underlying31 rfl (by kernel_rfl)
  have hl3:=run_loadVar_row (P:=Try.prog) w R 41 41 _ (0,0) _ hR Try.underlying41 rfl (by kernel_rfl)
  have h2':tmps[2]?.getD undef=.pointer (some ⟨P,0,none⟩):=by simpa using h2
  have h3':tmps[3]?.getD undef=.pointer (some ⟨Q,0,none⟩):=by simpa using h3
  have h4':tmps[4]?.getD undef=.pointer (some ⟨R,0,none⟩):=by simpa using h4
  simp [results,Try.results19,h2',h3',h4',asAddr,hl,hl2,hl3]
theorem rows3 {w W:World} {P Q R:Nat} {cs0 cs c31:Array Value} {a b:Value} {n i:Int} (hB:Below w.heap.size w W) (hP:W.heap[P]?=some (.cells cs0 28 (0,0))) (hQ:W.heap[Q]?=some (.cells c31 31 (0,0))) (hR:W.heap[R]?=some (rdO 0 0)) (lP:w.heap.size≤P) (lQ:w.heap.size≤Q) (lR:w.heap.size≤R) (hPQ:P≠Q) (hPR:P≠R) (hQR:Q≠R) :
    (W.setRow P cs).heap[Q]?=some (.cells c31 31 (0,0))∧((W.setRow P cs).setRow Q #[a,b]).heap[R]?=some (rdO 0 0) ∧
    (((W.setRow P cs).setRow Q #[a,b]).setRow R (rdC n i)).heap[P]?=some (.cells cs 28 (0,0))∧(((W.setRow P cs).setRow Q #[a,b]).setRow R (rdC n i)).heap[Q]?=some (.cells #[a,b] 31 (0,0))∧(((W.setRow P cs).setRow Q #[a,b]).setRow R (rdC n i)).heap[R]?=some (rdO n i) ∧
    Below w.heap.size w (((W.setRow P cs).setRow Q #[a,b]).setRow R (rdC n i))∧∀ k,k≠P→k≠Q→k≠R→(((W.setRow P cs).setRow Q #[a,b]).setRow R (rdC n i)).heap[k]?=W.heap[k]?:=by
  have q1:(W.setRow P cs).heap[Q]?=some (.cells c31 31 (0,0)):=(aZl _ _ _ _ hPQ.symm).trans hQ
  have q2:(W.setRow P cs).heap[R]?=some (rdO 0 0):=(aZl _ _ _ _ hPR.symm).trans hR
  have q3:((W.setRow P cs).setRow Q #[a,b]).heap[R]?=some (rdO 0 0):=(aZl _ _ _ _ hQR.symm).trans q2
  exact ⟨q1, q3, (aZl _ _ _ _ hPR).trans ((aZl _ _ _ _ hPQ).trans (setRow_heap _ _ _ _ _ _ hP)), (aZl _ _ _ _ hQR).trans (setRow_heap _ _ _ _ _ _ q1), setRow_heap _ _ _ _ _ _ q3,
    below_setRow (below_setRow (below_setRow hB lP _) lQ _) lR _,fun k h1 h2 h3=>(aZl _ _ _ _ h3).trans ((aZl _ _ _ _ h2).trans (aZl _ _ _ _ h1))⟩
def RbEnd (w:World) (bs:List Int) (e:Ending) (w':World):Prop :=
  ∃ v,e=.returned (.tuple #[v,.agg #[.int .i64 (bmostR (aZ7 bs)),.int .i64 (bstepsR (aZ7 bs))],rdV (codeR (errR (aZ7 bs))) (atR (errR (aZ7 bs)))])∧IsPg w.heap.size (pgR (aZ7 bs)) v w'∧Below w.heap.size w w'
theorem pg0_is (w W:World) (base:Nat):IsPg base Pg0 (.agg z7) W:=⟨_,_,_,_,_,rfl,Kd.R_nil _ _ _ _ _,Kd.R_nil _ _ _ _ _,Kd.R_nil _ _ _ _ _,Kd.R_nil _ _ _ _ _,Kd.R_nil _ _ _ _ _⟩
theorem z28:(Try.prog.info? 28).map (·.size)=some z7.size:=by kernel_rfl
theorem z28_all:z7.all (·.oneCell')=true:=by kernel_rfl
theorem info28g (A0 A1 A2 A3 A4:Option Addr) (n0 n1 n2 n3 n4 c0 c1 c2 c3 c4:Nat) (d l:Int):(Try.prog.info? 28).map (·.size)=some (#[.slice A0 n0 c0,.slice A1 n1 c1,.slice A2 n2 c2,.slice A3 n3 c3,.slice A4 n4 c4,.int .i64 d,.int .i64 l]:Array Value).size:=by kernel_rfl
theorem all28g (A0 A1 A2 A3 A4:Option Addr) (n0 n1 n2 n3 n4 c0 c1 c2 c3 c4:Nat) (d l:Int):(#[.slice A0 n0 c0,.slice A1 n1 c1,.slice A2 n2 c2,.slice A3 n3 c3,.slice A4 n4 c4,.int .i64 d,.int .i64 l]:Array Value).all (·.oneCell')=true:=by simp [Array.all,Value.oneCell']
theorem info31g (a b:Int):(Try.prog.info? 31).map (·.size)=some (#[.int .i64 a,.int .i64 b]:Array Value).size:=by kernel_rfl
theorem all31g (a b:Int):(#[.int .i64 a,.int .i64 b]:Array Value).all (·.oneCell')=true:=by simp [Array.all,Value.oneCell']
theorem dZp {o:Oper} {a:Act} {w:World} {x:Operand} {g:Nat} {u v:Value} (ho:o.op=.load 31 x) (hx:a.eval x=.pointer (some ⟨g,0,none⟩)) (hg:w.heap[g]?=some (.cells #[u,v] 31 (0,0))):(execOp a.eval o).run Try.prog w=.ok (.value (.agg #[u,v])) w:=by
  unfold execOp
  simp only [ho,hx,Instr.loadAt,Instr.sureAddr,Sem.run_bind,Sem.run_pure,Result.andThen_ok,run_loadVar_row (P:=Try.prog) w g 31 31 #[u,v] (0,0) _ hg Try.underlying31 rfl (by kernel_rfl)]
theorem dZS {o:Oper} {a:Act} {w:World} {x:Operand} {g:Nat} {cs:Array Value} (hcs:cs.size=7) (ho:o.op=.load 28 x) (hx:a.eval x=.pointer (some ⟨g,0,none⟩)) (hg:w.heap[g]?=some (.cells cs 28 (0,0))):(execOp a.eval o).run Try.prog w=.ok (.value (.agg cs)) w:=by
  unfold execOp
  simp only [ho,hx,Instr.loadAt,Instr.sureAddr,Sem.run_bind,Sem.run_pure,Result.andThen_ok,run_loadVar_row (P:=Try.prog) w g 28 28 cs (0,0) _ hg Try.underlying28 rfl (by rw [hcs];kernel_rfl)]
theorem fZQ (w:World) (A:Option Addr) (c:Nat) (bs:List Int) (hC:Kd.C (Kd.int .u8) w A bs.length bs) (hc:bs.length≤c) (G:Good bs) :
 Calls Try.prog 19 #[.slice A bs.length c] w (RbEnd w bs):=by
 obtain ⟨p0,p1,p2,p3⟩:=bZW w (.cells z7 28) (.cells #[.int .i64 0,.int .i64 0] 31) (rdO 0 0)
 go_enter Try.func19,Try.ntmps19
 go_upto_region 1 with (fail)
 generalize ((w.alloc (.cells z7 28)).alloc (.cells #[.int .i64 0,.int .i64 0] 31)).alloc (rdO 0 0)=W1 at p0 p1 p2 p3 ⊢
 have hC1:=Kd.C_below hC p3
 have hs1:=And.intro (aZd p2) p3.size
 have HP:=hid_ (And.intro p0 (And.intro p1 (And.intro p2 p3)))
 clear p0 p1 p2 p3 hC
 go_wp2_with (fail)
 refine (show Calls _ _ _ _ _ from fZr W1 A c bs hC1 hc G).mono ?_
 rintro e W2 ⟨gd,v,kf,bf,rfl,bel,hpg,hpr⟩
 obtain ⟨B0,B1,B2,B3,B4,e0,e1,e2,e3,e4,rfl,hI2⟩:=hpg.read
 have HP2:=hid_ (And.intro (aZj HP.out.1 bel) (And.intro (aZj HP.out.2.1 bel) (And.intro (aZj HP.out.2.2.1 bel) (HP.out.2.2.2.trans (bel.mono HP.out.2.2.2.size)))))
 have hs2:=bel.size
 have HPG:=hid_ (And.intro hpg (And.intro hI2 (And.intro hpr bel.size)))
 clear HP bel hpg hI2 hpr hC1
 unfold cZs
 cases hpf:aZG bs with
 | error fe =>
  obtain ⟨k,q⟩:=fe
  have hk:=dZ8 hpf
  have hpr:=HPG.out.2.2.1
  rw [hpf] at hpr
  obtain ⟨rfl,rfl,hg0⟩:=hpr
  have HBE:=hid_ (dZc hpf)
  have e0':(kf == 0)=false:=by rw [beq_eq_false_iff_ne];exact hk
  clear hk hpf hg0
  go_upto_region 3 with (fail)
  have hb3:=aZb (Below.refl W2.heap.size W2) (.cells #[.slice B0 gd.T.length e0,.slice B1 gd.N.length e1,.slice B2 gd.S.length e2,.slice B3 gd.M.length e3,.slice B4 gd.C.length e4,.int .i64 gd.dep,.int .i64 gd.loc] 28)
  have h28:=aZj HP2.out.1 hb3
  have h31:=aZj HP2.out.2.1 hb3
  have h41:=aZj HP2.out.2.2.1 hb3
  have hbw:=HP2.out.2.2.2.trans (hb3.mono HP2.out.2.2.2.size)
  clear hb3 e0'
  generalize W2.alloc (.cells #[.slice B0 gd.T.length e0,.slice B1 gd.N.length e1,.slice B2 gd.S.length e2,.slice B3 gd.M.length e3,.slice B4 gd.C.length e4,.int .i64 gd.dep,.int .i64 gd.loc] 28)=W3 at h28 h31 h41 hbw ⊢
  obtain ⟨q1,q2,f1,f2,f3,fb,-⟩:=rows3 (cs:=z7) (a:=.int .i64 0) (b:=.int .i64 0) (n:=kf) (i:=bf) hbw h28 h31 h41 (Nat.le_refl _) (by omega) (by omega) (by omega) (by omega) (by omega)
  have HH:=hid_ (And.intro h28 (And.intro q1 (And.intro q2 (And.intro f1 (And.intro f2 (And.intro f3 fb))))))
  clear h28 h31 h41 hbw q1 q2 f1 f2 f3 fb
  go_wp2_with (first
   | ((with_reducible refine aZM (t:=28) (p:=2) rfl ?_);refine wpList_store_row ?_ 28 (.tmp 2) (.tmp 18) ?_ w.heap.size z7 ?_ ?_ 28 z7 ?_ ?_ ?_ ?_ ?_;rfl;rfl;rfl;rfl;exact HH.out.1;exact z28;rfl;exact z28_all)
   | ((with_reducible refine aZM (t:=31) (p:=3) rfl ?_);refine wpList_store_row ?_ 31 (.tmp 3) (.tmp 19) ?_ (w.heap.size+1) #[.int .i64 0,.int .i64 0] ?_ ?_ 31 #[.int .i64 0,.int .i64 0] ?_ ?_ ?_ ?_ ?_;rfl;rfl;rfl;rfl;exact HH.out.2.1;exact (info31g 0 0);rfl;exact (all31g 0 0))
   | ((with_reducible refine aZM (t:=41) (p:=4) rfl ?_);refine wpList_store_row ?_ 41 (.tmp 4) (.tmp 22) ?_ (w.heap.size+1+1) (rdC kf bf) ?_ ?_ 41 (rdC 0 0) ?_ ?_ ?_ ?_ ?_;rfl;rfl;rfl;rfl;exact HH.out.2.2.1;exact (bZL kf bf);rfl;exact (cZW kf bf)))
  refine bodyPost_ret (results19 _ _ w.heap.size (w.heap.size+1) (w.heap.size+1+1) z7 (.int .i64 0) (.int .i64 0) kf bf rfl ?_ ?_ ?_ HH.out.2.2.2.1 HH.out.2.2.2.2.1 HH.out.2.2.2.2.2.1) ?_ ?_
  · kernel_rfl
  · kernel_rfl
  · kernel_rfl
  · kernel_rfl
  ·
   unfold RbEnd
   rw [HBE.out]
   exact ⟨_,rfl,pg0_is w _ _,HH.out.2.2.2.2.2.2⟩
 | ok hx =>
  obtain ⟨gh,qe⟩:=hx
  have hpr:=HPG.out.2.2.1
  rw [hpf] at hpr
  obtain ⟨rfl,rfl⟩:=hpr
  obtain ⟨hform,-⟩:=dZM bs G.byte _ _ hpf
  have fg:=dZr _ hform
  have HPF:=hid_ hpf
  clear hform hpf
  have hb3:=aZb (Below.refl W2.heap.size W2) (.cells #[.slice B0 gd.T.length e0,.slice B1 gd.N.length e1,.slice B2 gd.S.length e2,.slice B3 gd.M.length e3,.slice B4 gd.C.length e4,.int .i64 gd.dep,.int .i64 gd.loc] 28)
  have h5:=heap_alloc_new W2 (.cells #[.slice B0 gd.T.length e0,.slice B1 gd.N.length e1,.slice B2 gd.S.length e2,.slice B3 gd.M.length e3,.slice B4 gd.C.length e4,.int .i64 gd.dep,.int .i64 gd.loc] 28)
  have HP3:=hid_ (And.intro (aZj HP2.out.1 hb3) (And.intro (aZj HP2.out.2.1 hb3) (And.intro (aZj HP2.out.2.2.1 hb3) (HP2.out.2.2.2.trans (hb3.mono HP2.out.2.2.2.size)))))
  have HPG3:=hid_ (HPG.out.1.below_ hb3)
  have hI3:=HPG.out.2.1.below hb3
  go_upto_region 4 with (fail)
  clear hb3 HP2 HPG
  generalize W2.alloc (.cells #[.slice B0 gd.T.length e0,.slice B1 gd.N.length e1,.slice B2 gd.S.length e2,.slice B3 gd.M.length e3,.slice B4 gd.C.length e4,.int .i64 gd.dep,.int .i64 gd.loc] 28)=W3 at h5 HP3 HPG3 hI3 ⊢
  generalize W2.heap.size=b5 at h5 hs2 ⊢
  obtain ⟨x0,x1,x2,x3,x4,x5,x6⟩:=cZl h5
  have H5:=hid_ h5
  have HI3:=hid_ hI3
  clear h5 hI3
  go_wp2_with (fail)
  clear x0 x1 x2 x3 x4 x5 x6
  refine (show Calls _ _ _ _ _ from refProg_u W3 B0 B1 B2 B3 B4 e0 e1 e2 e3 e4 gd HI3.out fg).mono ?_
  rintro e W4 ⟨rfl,bel⟩
  have hcase:(aZ7 bs=.error (atR (errR (bZa gd)),codeR (errR (bZa gd)))∧codeR (errR (bZa gd))≠0)∨(codeR (errR (bZa gd))=0∧atR (errR (bZa gd))=0∧aZ7 bs=.ok (gd,mostR (bZa gd))∧stepsR gd.C.length (bZa gd)=gd.C.length):=by
   cases ha:bZa gd with
   | error f =>
    obtain ⟨ai,an⟩:=f
    have han:an≠0:=by have:=dZX gd ai an;rw [ha] at this;exact this rfl
    exact .inl ⟨dZd HPF.out ha,han⟩
   | ok tm =>
    obtain ⟨t,m⟩:=tm
    exact .inr ⟨rfl,rfl,cZ4 HPF.out ha,rfl⟩
  generalize codeR (errR (bZa gd))=cn at hcase ⊢
  generalize atR (errR (bZa gd))=ca at hcase ⊢
  generalize mostR (bZa gd)=most at hcase ⊢
  generalize stepsR gd.C.length (bZa gd)=steps at hcase ⊢
  have HP4:=hid_ (And.intro (aZj HP3.out.1 bel) (And.intro (aZj HP3.out.2.1 bel) (And.intro (aZj HP3.out.2.2.1 bel) (HP3.out.2.2.2.trans (bel.mono HP3.out.2.2.2.size)))))
  have hl4:=aZd HP4.out.2.2.1
  have H54:=hid_ (And.intro (aZj H5.out bel) (HPG3.out.below_ (bel.mono (Nat.le_refl _))))
  have HCS:=hid_ hcase
  clear bel HP3 H5 HPG3 HI3 HPF hcase
  obtain ⟨p0,p1,p2⟩:=cZt W4 (.cells #[.int .i64 most,.int .i64 steps] 31) (rdO 0 0)
  go_upto_region 5 with ((with_reducible refine aZM (t:=41) (p:=9) rfl ?_);refine wpList_store_row rfl 41 (.tmp 9) (.tmp 27) rfl (W4.heap.size+1) (rdC cn ca) rfl rfl 41 (rdC 0 0) p1 (bZL cn ca) (bZX 0 0 cn ca) (cZW cn ca) ?_)
  have q0:=(aZl _ (W4.heap.size+1) (rdC cn ca) W4.heap.size (by omega)).trans p0
  have q1:=setRow_heap _ _ _ (rdC cn ca) _ _ p1
  have bel:Below W4.heap.size W4 (((W4.alloc (.cells #[.int .i64 most,.int .i64 steps] 31)).alloc (rdO 0 0)).setRow (W4.heap.size+1) (rdC cn ca)):=below_setRow p2 (by omega) _
  have h28:=aZj HP4.out.1 bel
  have h31:=aZj HP4.out.2.1 bel
  have h41:=aZj HP4.out.2.2.1 bel
  have hbw:=HP4.out.2.2.2.trans (bel.mono HP4.out.2.2.2.size)
  have h5w:=aZj H54.out.1 bel
  have hpgw:=H54.out.2.below_ bel
  clear p0 p1 p2 bel HP4 H54
  generalize ((W4.alloc (.cells #[.int .i64 most,.int .i64 steps] 31)).alloc (rdO 0 0)).setRow (W4.heap.size+1) (rdC cn ca)=W at q0 q1 h28 h31 h41 hbw h5w hpgw ⊢
  have n5:b5≠w.heap.size∧b5≠w.heap.size+1∧b5≠w.heap.size+1+1:=by have:=hs1.1;omega
  have n8:W4.heap.size≠w.heap.size∧W4.heap.size≠w.heap.size+1∧W4.heap.size≠w.heap.size+1+1:=by omega
  have n9:W4.heap.size+1≠w.heap.size∧W4.heap.size+1≠w.heap.size+1∧W4.heap.size+1≠w.heap.size+1+1:=by omega
  generalize W4.heap.size+1=b9 at q1 n9 ⊢
  generalize W4.heap.size=b8 at q0 n8 hl4 ⊢
  have y0:W.cell? ⟨b9,0,none⟩=some (.int .i64 cn):=by simp [World.cell?,q1]
  have HN:=hid_ (And.intro n5 (And.intro n8 n9))
  have HQ:=hid_ (And.intro h5w (And.intro q0 q1))
  have HS1:=hid_ hs1
  clear n5 n8 n9 h5w q0 q1 hs1 hs2 hl4
  rcases HCS.out with ⟨hbf,hn0⟩ | ⟨hn0,hca,hbf,hst⟩
  ·
   have e0:(cn == 0)=false:=by rw [beq_eq_false_iff_ne];exact hn0
   have hrows:=rows3 (W:=W.drew) (cs:=z7) (a:=.int .i64 0) (b:=.int .i64 0) (n:=cn) (i:=ca) hbw.drew h28 h31 h41 (Nat.le_refl _) (by omega) (by omega) (by omega) (by omega) (by omega)
   have HR:=hid_ (And.intro h28 hrows)
   have HBF:=hid_ hbf
   clear hrows h28 h31 h41 hbw hbf hn0 HCS
   go_upto_region 6 with (fail)
   clear y0 e0
   go_cut [] (fun wx=>wx=((W.drew.setRow w.heap.size z7).setRow (w.heap.size+1) #[.int .i64 0,.int .i64 0]).setRow (w.heap.size+1+1) (rdC cn ca))
   case first =>
    refine eZX (n:=6) (S:=fun w'=>w'.heap[b9]?=some (rdO cn ca)) (ds:=[5]) (bm 6 0) (by kernel_rfl) rfl (by kernel_rfl) HQ.out.2.2 (fun hHeld=>?_)
    refine cZq rb.tab6 rb.bits6 (fun HT_ HW_=>?_)
    refine bZG (i:=0) (N:=some 31) (v:=?_) (a':=?_) (bm 6 1) rfl rfl (aZY HT_.out (by kernel_rfl)) (fun _ _ _ h=>h) (Or.inl ⟨by rfl,?_⟩) ?_ ?_
    rotate_left
    ·
     intro w'
     go_simp
     with_reducible rfl
    rotate_left
    ·
     simp only [Act.put,List.setIfInBounds_toArray,List.set_cons_zero,List.set_cons_succ]
     rfl
    refine bZG (i:=1) (N:=some 32) (v:=?_) (a':=?_) (bm 6 3) rfl rfl (aZY HT_.out (by kernel_rfl)) (fun _ _ _ h=>h) (Or.inl ⟨by rfl,?_⟩) ?_ ?_
    rotate_left
    ·
     intro w'
     go_simp
     with_reducible rfl
    rotate_left
    ·
     simp only [Act.put,List.setIfInBounds_toArray,List.set_cons_zero,List.set_cons_succ]
     rfl
    refine take_ (i:=2) (N:=some 33) (v:=?_) (a':=?_) (bm 6 7) rfl rfl (bZc HT_.out HW_.out (by kernel_rfl)) (fun _ _ _ h=>h) (Or.inl ⟨by rfl,?_⟩) hHeld ?_ ?_
    rotate_left
    ·
     intro w' hS'
     refine dZR (x:=.tmp 9) (g:=b9) (n:=cn) (i:=ca) ?_ ?_ (show w'.heap[b9]?=_ from hS')
     all_goals exact rfl
    rotate_left
    ·
     simp only [Act.put,List.setIfInBounds_toArray,List.set_cons_zero,List.set_cons_succ]
     rfl
    refine one_ (i:=3) (N:=none) (bm 6 15) rfl rfl (cZc HT_.out (by kernel_rfl)) (by decide) (fun K hK=>?_)
    rw [if_pos (by rfl)]
    refine wp_store_row 28 (.tmp 2) (.tmp 31) rfl w.heap.size z7 rfl rfl 28 z7 HR.out.1 z28 rfl z28_all ?_
    refine hK.out _ _ ((aZl _ _ _ _ HN.out.2.2.1).trans hHeld) (fun hHeld=>?_)
    clear hK K
    refine one_ (i:=4) (N:=none) (bm 6 31) rfl rfl (cZc HT_.out (by kernel_rfl)) (by decide) (fun K hK=>?_)
    rw [if_pos (by rfl)]
    refine wp_store_row 31 (.tmp 3) (.tmp 32) rfl (w.heap.size+1) #[.int .i64 0,.int .i64 0] rfl rfl 31 #[.int .i64 0,.int .i64 0] HR.out.2.1 (info31g 0 0) rfl (all31g 0 0) ?_
    refine hK.out _ _ ((aZl _ _ _ _ HN.out.2.2.2.1).trans hHeld) (fun hHeld=>?_)
    clear hK K
    refine last_ (i:=5) (N:=none) (bm 6 63) rfl rfl (cZc HT_.out (by kernel_rfl)) (by decide) (fun K hK=>?_)
    rw [if_pos (by rfl)]
    refine wp_store_row 41 (.tmp 4) (.tmp 33) rfl (w.heap.size+1+1) (rdC cn ca) rfl rfl 41 (rdC 0 0) HR.out.2.2.1 (bZL cn ca) (bZX 0 0 cn ca) (cZW cn ca) ?_
    refine hK.out _ _ ?_
    clear hK K
    refine done_ (dZV HT_.out (by kernel_rfl)) ?_
    go_wp2_with (fail)
    go_meet
    rfl
   case rest =>
    subst hcut
    go_wp2_with (fail)
    obtain ⟨-,-,-,f1,f2,f3,fb,-⟩:=HR.out
    refine bodyPost_ret (results19 _ _ w.heap.size (w.heap.size+1) (w.heap.size+1+1) z7 (.int .i64 0) (.int .i64 0) cn ca rfl ?_ ?_ ?_ f1 f2 f3) ?_ ?_
    · kernel_rfl
    · kernel_rfl
    · kernel_rfl
    · kernel_rfl
    ·
     unfold RbEnd
     rw [HBF.out]
     exact ⟨_,rfl,pg0_is w _ _,fb⟩
  ·
   subst hn0
   subst hca
   subst hst
   have hrows:=rows3 (W:=W.drew) (cs:=#[.slice B0 gd.T.length e0,.slice B1 gd.N.length e1,.slice B2 gd.S.length e2,.slice B3 gd.M.length e3,.slice B4 gd.C.length e4,.int .i64 gd.dep,.int .i64 gd.loc]) (a:=.int .i64 most) (b:=.int .i64 gd.C.length) (n:=0) (i:=0) hbw.drew h28 h31 h41 (Nat.le_refl _) (by omega) (by omega) (by omega) (by omega) (by omega)
   have HR:=hid_ (And.intro h28 hrows)
   have HBF:=hid_ hbf
   have HPW:=hid_ hpgw
   clear hrows h28 h31 h41 hbw hbf HCS hpgw
   go_upto_region 7 with (fail)
   clear y0
   go_cut [] (fun wx=>wx=((W.drew.setRow w.heap.size #[.slice B0 gd.T.length e0,.slice B1 gd.N.length e1,.slice B2 gd.S.length e2,.slice B3 gd.M.length e3,.slice B4 gd.C.length e4,.int .i64 gd.dep,.int .i64 gd.loc]).setRow (w.heap.size+1) #[.int .i64 most,.int .i64 gd.C.length]).setRow (w.heap.size+1+1) (rdC 0 0))
   case first =>
    refine eZX (n:=6) (S:=fun w'=>(w'.heap[b5]?=some (.cells #[.slice B0 gd.T.length e0,.slice B1 gd.N.length e1,.slice B2 gd.S.length e2,.slice B3 gd.M.length e3,.slice B4 gd.C.length e4,.int .i64 gd.dep,.int .i64 gd.loc] 28 (0,0))∧w'.heap[b8]?=some (.cells #[.int .i64 most,.int .i64 gd.C.length] 31 (0,0)))) (ds:=[5]) (bm 6 0) (by kernel_rfl) rfl (by kernel_rfl) ⟨HQ.out.1,HQ.out.2.1⟩ (fun hHeld=>?_)
    refine cZq rb.tab7 rb.bits7 (fun HT_ HW_=>?_)
    refine bZG (i:=2) (N:=some 36) (v:=?_) (a':=?_) (bm 6 4) rfl rfl (aZY HT_.out (by kernel_rfl)) (fun _ _ _ h=>h) (Or.inl ⟨by rfl,?_⟩) ?_ ?_
    rotate_left
    ·
     intro w'
     go_simp
     with_reducible rfl
    rotate_left
    ·
     simp only [Act.put,List.setIfInBounds_toArray,List.set_cons_zero,List.set_cons_succ]
     rfl
    refine take_ (i:=0) (N:=some 34) (v:=?_) (a':=?_) (bm 6 5) rfl rfl (bZc HT_.out HW_.out (by kernel_rfl)) (fun _ _ _ h=>h) (Or.inl ⟨by rfl,?_⟩) hHeld ?_ ?_
    rotate_left
    ·
     intro w' hS'
     refine dZS (x:=.tmp 5) (g:=b5) (cs:=#[.slice B0 gd.T.length e0,.slice B1 gd.N.length e1,.slice B2 gd.S.length e2,.slice B3 gd.M.length e3,.slice B4 gd.C.length e4,.int .i64 gd.dep,.int .i64 gd.loc]) rfl ?_ ?_ (show w'.heap[b5]?=_ from hS'.1)
     all_goals exact rfl
    rotate_left
    ·
     simp only [Act.put,List.setIfInBounds_toArray,List.set_cons_zero,List.set_cons_succ]
     rfl
    refine take_ (i:=1) (N:=some 35) (v:=?_) (a':=?_) (bm 6 7) rfl rfl (bZc HT_.out HW_.out (by kernel_rfl)) (fun _ _ _ h=>h) (Or.inl ⟨by rfl,?_⟩) hHeld ?_ ?_
    rotate_left
    ·
     intro w' hS'
     refine dZp (x:=.tmp 8) (g:=b8) (u:=.int .i64 most) (v:=.int .i64 gd.C.length) ?_ ?_ (show w'.heap[b8]?=_ from hS'.2)
     all_goals exact rfl
    rotate_left
    ·
     simp only [Act.put,List.setIfInBounds_toArray,List.set_cons_zero,List.set_cons_succ]
     rfl
    refine one_ (i:=3) (N:=none) (bm 6 15) rfl rfl (cZc HT_.out (by kernel_rfl)) (by decide) (fun K hK=>?_)
    rw [if_pos (by rfl)]
    refine wp_store_row 28 (.tmp 2) (.tmp 34) rfl w.heap.size #[.slice B0 gd.T.length e0,.slice B1 gd.N.length e1,.slice B2 gd.S.length e2,.slice B3 gd.M.length e3,.slice B4 gd.C.length e4,.int .i64 gd.dep,.int .i64 gd.loc] rfl rfl 28 z7 HR.out.1 (info28g _ _ _ _ _ _ _ _ _ _ _ _ _ _ _ _ _) rfl (all28g _ _ _ _ _ _ _ _ _ _ _ _ _ _ _ _ _) ?_
    refine hK.out _ _ ⟨(aZl _ _ _ _ HN.out.1.1).trans hHeld.1,(aZl _ _ _ _ HN.out.2.1.1).trans hHeld.2⟩ (fun hHeld=>?_)
    clear hK K
    refine one_ (i:=4) (N:=none) (bm 6 31) rfl rfl (cZc HT_.out (by kernel_rfl)) (by decide) (fun K hK=>?_)
    rw [if_pos (by rfl)]
    refine wp_store_row 31 (.tmp 3) (.tmp 35) rfl (w.heap.size+1) #[.int .i64 most,.int .i64 gd.C.length] rfl rfl 31 #[.int .i64 0,.int .i64 0] HR.out.2.1 (info31g _ _) rfl (all31g _ _) ?_
    refine hK.out _ _ ⟨(aZl _ _ _ _ HN.out.1.2.1).trans hHeld.1,(aZl _ _ _ _ HN.out.2.1.2.1).trans hHeld.2⟩ (fun hHeld=>?_)
    clear hK K
    refine last_ (i:=5) (N:=none) (bm 6 63) rfl rfl (cZc HT_.out (by kernel_rfl)) (by decide) (fun K hK=>?_)
    rw [if_pos (by rfl)]
    refine wp_store_row 41 (.tmp 4) (.tmp 36) rfl (w.heap.size+1+1) (rdC 0 0) rfl rfl 41 (rdC 0 0) HR.out.2.2.1 (bZL 0 0) (bZX 0 0 0 0) (cZW 0 0) ?_
    refine hK.out _ _ ?_
    clear hK K
    refine done_ (dZV HT_.out (by kernel_rfl)) ?_
    go_wp2_with (fail)
    go_meet
    rfl
   case rest =>
    subst hcut
    go_wp2_with (fail)
    obtain ⟨-,-,-,f1,f2,f3,fb,fo⟩:=HR.out
    refine bodyPost_ret (results19 _ _ w.heap.size (w.heap.size+1) (w.heap.size+1+1) #[.slice B0 gd.T.length e0,.slice B1 gd.N.length e1,.slice B2 gd.S.length e2,.slice B3 gd.M.length e3,.slice B4 gd.C.length e4,.int .i64 gd.dep,.int .i64 gd.loc] (.int .i64 most) (.int .i64 gd.C.length) 0 0 rfl ?_ ?_ ?_ f1 f2 f3) ?_ ?_
    · kernel_rfl
    · kernel_rfl
    · kernel_rfl
    · kernel_rfl
    ·
     unfold RbEnd
     rw [HBF.out]
     exact ⟨_,rfl,HPW.out.far HS1.out.2 (fun k hk=>fo k (by have:=HS1.out.1;omega) (by have:=HS1.out.1;omega) (by have:=HS1.out.1;omega)),fb⟩
def lby.T5:Bool × List (List Nat × List Nat):=(true,[([],[]),([],[]),([0,1],[0,1]),([2,2],[2]),([3],[3]),([3],[3]),([4,5,3],[3,4,5]),([3,6],[3,6]),([7,3],[7]),([8],[8]),([9,8,8],[8,9]),([8],[8]),([10,11,8],[8,10,11]),([8,12],[8,12]),([13,10,0,1,2,3,4,5,6,7,8,9,10,11,12,13],[13])])
def lby.B5:List Nat:=[0,0,3,7,15,15,63,127,255,511,1023,511,4095,8191,16383]
theorem lby.tab5:rtab .any (dZf Try.f4 5)=lby.T5:=by kernel_rfl
theorem lby.bits5:cZn lby.T5.2 lby.B5=true:=by kernel_rfl
theorem pgR_fits (bs:List Int) (G:Good bs):Fits (pgR (aZ7 bs)):=by
  cases hp:aZG bs with
  | error f=>obtain ⟨k,q⟩:=f;rw [dZc hp];exact fits0
  | ok gq =>
    obtain ⟨g,q⟩:=gq
    obtain ⟨hf,-⟩:=dZM bs G.byte g q hp
    cases ha:bZa g with
    | error f=>rw [dZd hp ha];exact fits0
    | ok tm=>obtain ⟨t,m⟩:=tm;rw [cZ4 hp ha];exact dZr g hf
theorem fZB (w:World) (B:Option Addr) (cb:Nat) (bs:List Int) (hB:Kd.C (Kd.int .u8) w B bs.length bs) (lB:bs.length≤cb) (G:Good bs) (hlen:bs.length≤140737488351232) :
 Calls Try.prog 4 #[.slice B bs.length cb] w fun e w'=>e=.returned (.bool true)∧Below w.heap.size w w':=by
 go_enter Try.func4,Try.ntmps4
 go_wp2_with (fail)
 refine (wakes_any _).mono ?_
 rintro e W1 ⟨rfl,bel⟩
 have hB1:=Kd.C_below hB bel
 have hB1h:=Kd.C_below hB1 (aZb (Below.refl W1.heap.size W1) (.cells #[] 5))
 have HW1:=hid_ bel
 clear bel hB
 go_wp2_with ((with_reducible refine aZh (b:=.append) (xs:=#[.tmp 12,.tmp 13]) rfl ?_);at_builtin;refine Kd.R_append_rows (Kd.int .u8) (w0:=W1) W1.heap.size rfl (.tmp 12) (.tmp 13) 53 5 (.int .u8 0) 1 rfl Try.underlying53 info5 rfl (by decide) (by omega) _ [] bs B bs.length cb (fun k=>W1.heap.size≤k) (fun _=>False) rfl rfl (own_empty5 W1) hB1h (fun _ _ h=>h) (fun _ hk=>hk.elim) (fun k hk=>by simp at hk;omega) (aZb (Below.refl _ _) _) (by simp) (by simp only [List.length_nil];omega) ?_;intro v6 w6 hr6 hb6 hg6 _)
 obtain ⟨A7,c7,rfl,k7,r7⟩:=Kd.R_reads (show (Kd.int .u8).R 5 w6 W1.heap.size (fun k=>W1.heap.size≤k) v6 bs from hr6)
 have hB6:=Kd.C_below hB1 hb6
 have HW6:=hid_ (HW1.out.trans (hb6.mono HW1.out.size))
 clear hr6 hb6 hg6 hB1 hB1h HW1
 refine (show Calls _ _ _ _ _ from bytes_u w6 A7 c7 bs r7 k7 G).mono ?_
 rintro e W2 ⟨v,ev,rfl,hpg,hev,bel⟩
 have hfits:=pgR_fits bs G
 have hnum:=bytesF_num bs
 have href:∀ W,Kd.C (Kd.int .u8) W B bs.length bs→Calls Try.prog 19 #[.slice B bs.length cb] W (RbEnd W bs):=fun W h=>fZQ W B cb bs h lB G
 unfold RbEnd at href
 generalize pgR (aZ7 bs)=gb at hpg hfits href
 generalize bmostR (aZ7 bs)=most at href ⊢
 generalize bstepsR (aZ7 bs)=steps at href ⊢
 generalize errR (aZ7 bs)=er at hev hnum href
 generalize hcn:codeR er=cn at href
 generalize hca:atR er=ca at href
 have HC:=hid_ (And.intro hcn hca)
 have HREF:=hid_ href
 have HN:=hid_ (And.intro hnum hfits)
 obtain ⟨E0,E1,E2,E3,E4,e0,e1,e2,e3,e4,rfl,hIE⟩:=hpg.read
 have hB2:=Kd.C_below hB6 bel
 have HW2:=hid_ (HW6.out.trans (bel.mono HW6.out.size))
 have HE2:=hid_ (And.intro hIE hev)
 clear hpg hev hIE hcn hca hnum hfits href r7 k7 hB6 bel HW6
 unfold cZs
 obtain ⟨p0,p1,p2⟩:=cZt W2 (.cells #[.slice E0 gb.T.length e0,.slice E1 gb.N.length e1,.slice E2 gb.S.length e2,.slice E3 gb.M.length e3,.slice E4 gb.C.length e4,.int .i64 gb.dep,.int .i64 gb.loc] 28) (.cells #[.int .i64 most,.int .i64 steps] 31)
 go_upto_region 4 with (fail)
 generalize (W2.alloc (.cells #[.slice E0 gb.T.length e0,.slice E1 gb.N.length e1,.slice E2 gb.S.length e2,.slice E3 gb.M.length e3,.slice E4 gb.C.length e4,.int .i64 gb.dep,.int .i64 gb.loc] 28)).alloc (.cells #[.int .i64 most,.int .i64 steps] 31)=W3 at p0 p1 p2 ⊢
 generalize W2.heap.size+1=b4 at p1 ⊢
 have hB3:=Kd.C_below hB2 p2
 have HE3:=hid_ (And.intro (HE2.out.1.below p2) (And.intro (HE2.out.2.below p2) (And.intro p0 p1)))
 have HW3:=hid_ (HW2.out.trans (p2.mono HW2.out.size))
 clear p0 p1 p2 hB2 HE2
 generalize W2.heap.size=b3 at HE3 ⊢
 clear HW2
 go_wp2_with (fail)
 refine (HREF.out W3 hB3).mono ?_
 rintro e W4 ⟨v2,rfl,hpg2,bel⟩
 obtain ⟨D0,D1,D2,D3,D4,d0,d1,d2,d3,d4,rfl,hID⟩:=hpg2.read
 have HE4:=hid_ (And.intro (HE3.out.1.below bel) (And.intro (HE3.out.2.1.below bel) (And.intro (aZj HE3.out.2.2.1 bel) (And.intro (aZj HE3.out.2.2.2 bel) hID))))
 have HW4:=hid_ (HW3.out.trans (bel.mono HW3.out.size))
 clear hpg2 hID bel HE3 HW3 hB3 HREF
 unfold cZs
 obtain ⟨p0,p1,p2,p3⟩:=bZW W4 (.cells #[.slice D0 gb.T.length d0,.slice D1 gb.N.length d1,.slice D2 gb.S.length d2,.slice D3 gb.M.length d3,.slice D4 gb.C.length d4,.int .i64 gb.dep,.int .i64 gb.loc] 28) (.cells #[.int .i64 most,.int .i64 steps] 31) (rdO 0 0)
 go_upto_region 5 with ((with_reducible refine aZM (t:=41) (p:=8) rfl ?_);refine wpList_store_row rfl 41 (.tmp 8) (.tmp 24) rfl (W4.heap.size+1+1) (rdC cn ca) rfl rfl 41 (rdC 0 0) p2 (bZL cn ca) (bZX 0 0 cn ca) (cZW cn ca) ?_)
 generalize ((W4.alloc (.cells #[.slice D0 gb.T.length d0,.slice D1 gb.N.length d1,.slice D2 gb.S.length d2,.slice D3 gb.M.length d3,.slice D4 gb.C.length d4,.int .i64 gb.dep,.int .i64 gb.loc] 28)).alloc (.cells #[.int .i64 most,.int .i64 steps] 31)).alloc (rdO 0 0)=W5 at p0 p1 p2 p3 ⊢
 have q0:=(aZl _ (W4.heap.size+1+1) (rdC cn ca) W4.heap.size (by omega)).trans p0
 have q1:=(aZl _ (W4.heap.size+1+1) (rdC cn ca) (W4.heap.size+1) (by omega)).trans p1
 have q2:=setRow_heap _ _ _ (rdC cn ca) _ _ p2
 have bel:Below W4.heap.size W4 (W5.setRow (W4.heap.size+1+1) (rdC cn ca)):=below_setRow p3 (by omega) _
 clear p0 p1 p2 p3
 have HR28:=hid_ (And.intro (aZj HE4.out.2.2.1 bel) q0)
 have HR31:=hid_ (And.intro (aZj HE4.out.2.2.2.1 bel) q1)
 have HR41:=hid_ q2
 have HIN:=hid_ (And.intro (HE4.out.1.below bel) (HE4.out.2.2.2.2.below bel))
 have HEV:=hid_ (HE4.out.2.1.below bel)
 have HWW:=hid_ (HW4.out.trans (bel.mono HW4.out.size))
 clear HE4 HW4 q0 q1 q2 bel
 generalize W5.setRow (W4.heap.size+1+1) (rdC cn ca)=W at HR28 HR31 HR41 HIN HEV HWW ⊢
 generalize W4.heap.size+1+1=b8 at HR41 ⊢
 generalize W4.heap.size+1=b7 at HR31 ⊢
 generalize W4.heap.size=b6 at HR28 ⊢
 have e39:=eq39
 simp only [Act.put]
 go_cut [2] (fun s wx=>s=.bool true∧Below W.heap.size W wx)
 case first =>
  refine eZX (n:=15) (S:=fun w'=>Below W.heap.size W w') (ds:=[]) (bm 15 0) (by kernel_rfl) rfl (by kernel_rfl) (Below.refl _ _).drew (fun hHeld=>?_)
  refine cZq lby.tab5 lby.bits5 (fun HT_ HW_=>?_)
  refine take_ (i:=0) (N:=some 25) (v:=?_) (a':=?_) (bm 15 1) rfl rfl (bZc HT_.out HW_.out (by kernel_rfl)) (fun _ _ _ h=>h) (Or.inl ⟨by rfl,?_⟩) hHeld ?_ ?_
  rotate_left
  ·
   intro w' hS'
   refine dZS (x:=.tmp 3) rfl ?_ ?_ (aZj HR28.out.1 hS')
   all_goals exact rfl
  rotate_left
  ·
   simp only [Act.put,List.setIfInBounds_toArray,List.set_cons_zero,List.set_cons_succ]
   rfl
  refine take_ (i:=1) (N:=some 26) (v:=?_) (a':=?_) (bm 15 3) rfl rfl (bZc HT_.out HW_.out (by kernel_rfl)) (fun _ _ _ h=>h) (Or.inl ⟨by rfl,?_⟩) hHeld ?_ ?_
  rotate_left
  ·
   intro w' hS'
   refine dZS (x:=.tmp 6) rfl ?_ ?_ (aZj HR28.out.2 hS')
   all_goals exact rfl
  rotate_left
  ·
   simp only [Act.put,List.setIfInBounds_toArray,List.set_cons_zero,List.set_cons_succ]
   rfl
  refine one_ (i:=2) (N:=some 27) (bm 15 7) rfl rfl (cZc HT_.out (by kernel_rfl)) (by decide) (fun K hK=>?_)
  go_simp
  go_at_call 20
  (refine (show Calls _ _ _ _ _ from same_any _ E0 E1 E2 E3 E4 e0 e1 e2 e3 e4 gb D0 D1 D2 D3 D4 d0 d1 d2 d3 d4 gb (HIN.out.2.below hHeld) (HIN.out.1.below hHeld) HN.out.2 HN.out.2).mono ?_)
  rintro e w1 ⟨⟨rb,rfl,hrb⟩,bel1⟩
  obtain rfl:rb=true:=hrb.2 rfl
  clear hrb
  refine hK.out _ _ (hHeld.trans (bel1.mono hHeld.size)) (fun hHeld=>?_)
  clear hK K
  refine bZG (i:=3) (N:=some 28) (v:=?_) (a':=?_) (bm 15 15) rfl rfl (aZY HT_.out (by kernel_rfl)) (fun _ _ _ h=>h) (Or.inl ⟨by rfl,?_⟩) ?_ ?_
  rotate_left
  ·
   intro w'
   go_simp
   with_reducible rfl
  rotate_left
  ·
   simp only [Act.put,List.setIfInBounds_toArray,List.set_cons_zero,List.set_cons_succ]
   rfl
  refine take_ (i:=4) (N:=some 29) (v:=?_) (a':=?_) (bm 15 31) rfl rfl (bZc HT_.out HW_.out (by kernel_rfl)) (fun _ _ _ h=>h) (Or.inl ⟨by rfl,?_⟩) hHeld ?_ ?_
  rotate_left
  ·
   intro w' hS'
   refine dZp (x:=.tmp 4) (u:=.int .i64 most) (v:=.int .i64 steps) ?_ ?_ (aZj HR31.out.1 hS')
   all_goals exact rfl
  rotate_left
  ·
   simp only [Act.put,List.setIfInBounds_toArray,List.set_cons_zero,List.set_cons_succ]
   rfl
  refine take_ (i:=5) (N:=some 30) (v:=?_) (a':=?_) (bm 15 63) rfl rfl (bZc HT_.out HW_.out (by kernel_rfl)) (fun _ _ _ h=>h) (Or.inl ⟨by rfl,?_⟩) hHeld ?_ ?_
  rotate_left
  ·
   intro w' hS'
   refine dZp (x:=.tmp 7) (u:=.int .i64 most) (v:=.int .i64 steps) ?_ ?_ (aZj HR31.out.2 hS')
   all_goals exact rfl
  rotate_left
  ·
   simp only [Act.put,List.setIfInBounds_toArray,List.set_cons_zero,List.set_cons_succ]
   rfl
  refine bZG (i:=6) (N:=some 31) (v:=?_) (a':=?_) (bm 15 127) rfl rfl (aZY HT_.out (by kernel_rfl)) (fun _ _ _ h=>h) (Or.inl ⟨by rfl,?_⟩) ?_ ?_
  rotate_left
  ·
   intro w'
   go_simp
   with_reducible rfl
  rotate_left
  ·
   simp only [Act.put,List.setIfInBounds_toArray,List.set_cons_zero,List.set_cons_succ]
   rfl
  refine bZG (i:=7) (N:=some 32) (v:=?_) (a':=?_) (bm 15 255) rfl rfl (aZY HT_.out (by kernel_rfl)) (fun _ _ _ h=>h) (Or.inl ⟨by rfl,?_⟩) ?_ ?_
  rotate_left
  ·
   intro w'
   go_simp
   with_reducible rfl
  rotate_left
  ·
   simp only [Act.put,List.setIfInBounds_toArray,List.set_cons_zero,List.set_cons_succ]
   rfl
  refine bZG (i:=8) (N:=some 33) (v:=?_) (a':=?_) (bm 15 511) rfl rfl (aZY HT_.out (by kernel_rfl)) (fun _ _ _ h=>h) (Or.inl ⟨by rfl,?_⟩) ?_ ?_
  rotate_left
  ·
   intro w'
   go_simp
   with_reducible rfl
  rotate_left
  ·
   simp only [Act.put,List.setIfInBounds_toArray,List.set_cons_zero,List.set_cons_succ]
   rfl
  refine bZG (i:=9) (N:=some 34) (v:=?_) (a':=?_) (bm 15 1023) rfl rfl (aZY HT_.out (by kernel_rfl)) (fun _ _ _ h=>h) (Or.inl ⟨by rfl,?_⟩) ?_ ?_
  rotate_left
  ·
   intro w'
   go_simp
   with_reducible rfl
  rotate_left
  ·
   simp only [Act.put,List.setIfInBounds_toArray,List.set_cons_zero,List.set_cons_succ]
   rfl
  refine take_ (i:=11) (N:=some 36) (v:=?_) (a':=?_) (bm 15 3071) rfl rfl (bZc HT_.out HW_.out (by kernel_rfl)) (fun _ _ _ h=>h) (Or.inl ⟨by rfl,?_⟩) hHeld ?_ ?_
  rotate_left
  ·
   intro w' hS'
   refine dZR (x:=.tmp 8) (n:=cn) (i:=ca) ?_ ?_ (aZj HR41.out hS')
   all_goals exact rfl
  rotate_left
  ·
   simp only [Act.put,List.setIfInBounds_toArray,List.set_cons_zero,List.set_cons_succ]
   rfl
  refine one_ (i:=10) (N:=some 35) (bm 15 4095) rfl rfl (cZc HT_.out (by kernel_rfl)) (by decide) (fun K hK=>?_)
  go_simp
  go_at_call 16
  (with_reducible refine (show Calls _ _ _ _ _ from read_any er ev _ (HEV.out.below hHeld) HN.out.1).mono ?_)
  rintro e w1 ⟨rfl,bel1⟩
  rw [HC.out.1,HC.out.2]
  refine hK.out _ _ (hHeld.trans (bel1.mono hHeld.size)) (fun hHeld=>?_)
  clear hK K
  refine bZG (i:=12) (N:=some 37) (v:=?_) (a':=?_) (bm 15 8191) rfl rfl (aZY HT_.out (by kernel_rfl)) (fun _ _ _ h=>h) (Or.inl ⟨by rfl,?_⟩) ?_ ?_
  rotate_left
  ·
   intro w'
   go_simp
   with_reducible rfl
  rotate_left
  ·
   simp only [Act.put,List.setIfInBounds_toArray,List.set_cons_zero,List.set_cons_succ]
   rfl
  refine bZG (i:=13) (N:=some 38) (v:=?_) (a':=?_) (bm 15 16383) rfl rfl (aZY HT_.out (by kernel_rfl)) (fun _ _ _ h=>h) (Or.inl ⟨by rfl,?_⟩) ?_ ?_
  rotate_left
  ·
   intro w'
   go_simp
   with_reducible rfl
  rotate_left
  ·
   simp only [Act.put,List.setIfInBounds_toArray,List.set_cons_zero,List.set_cons_succ]
   rfl
  refine bZG (i:=14) (N:=some 2) (v:=?_) (a':=?_) (bm 15 32767) rfl rfl (aZY HT_.out (by kernel_rfl)) (fun _ _ _ h=>h) (Or.inl ⟨by rfl,?_⟩) ?_ ?_
  rotate_left
  ·
   intro w'
   go_simp
   with_reducible rfl
  rotate_left
  ·
   simp only [Act.put,List.setIfInBounds_toArray,List.set_cons_zero,List.set_cons_succ]
   rfl
  refine done_ (dZV HT_.out (by kernel_rfl)) ?_
  go_wp2_with (fail)
  go_meet
  exact ⟨rfl,hHeld⟩
 case rest =>
  obtain ⟨rfl,hbw⟩:=hcut
  go_wp2_with (fail)
  go_ret
  exact ⟨rfl,HWW.out.trans (hbw.mono HWW.out.size)⟩
noncomputable def berthlaw21_AuditBytes.f (b:List Int):Option Bool:=@ite _ (Good b∧b.length≤140737488351232) (Classical.propDecidable _) (some true) none
theorem berthlaw21_AuditBytes.calls (B:Option Addr) (cb:Nat) (b:List Int) (r:Bool) (w:World) (hB:Kd.C (Kd.int .u8) w B b.length b) (lB:b.length≤cb) (h:berthlaw21_AuditBytes.f b=some r) :
 Calls Try.prog 4 #[.slice B b.length cb] w fun e w'=>e=.returned (.bool r)∧Below w.heap.size w w':=by
 unfold berthlaw21_AuditBytes.f at h
 split at h
 ·
  next f =>
  obtain ⟨f1,f2⟩:=f
  obtain rfl:=Option.some.inj h
  exact fZB w B cb b hB lB f1 f2
 · cases h
end Go.Proofs.Ytbnplhmmbnmagaa.D
