/- The document's audit: Program and Stacks over its walk. -/
import Derived.Test.YtbnplhmmbnmagaazAGm34
import Derived.Test.YtbnplhmmbnmagaazAGm33
import Derived.Test.YtbnplhmmbnmagaazAGm30
import Derived.Test.YtbnplhmmbnmagaazAGm6
import Derived.Test.YtbnplhmmbnmagaazAGm12
set_option maxHeartbeats 4000000
set_option maxRecDepth 100000
set_option linter.unusedVariables false
set_option linter.unusedSimpArgs false
namespace Go.Proofs.Ytbnplhmmbnmagaa.D
open Go.RowKit Go.Proofs.YtbnplhmmbnmagaaW.PrintWords Go.Proofs.YtbnplhmmbnmagaaW.PrintLast Go.Proofs.YtbnplhmmbnmagaaW.PrintMore Go.Proofs.Ytbnplhmmbnmagaa.All
def prg.T3:Bool × List (List Nat × List Nat):=(true,[([],[]),([],[]),([0,0],[0]),([1,2,0,1,2],[1])])
def prg.B3:List Nat:=[0,0,1,7]
theorem prg.tab3:rtab .any (cZF Try.f13 3)=prg.T3:=by kernel_rfl
theorem prg.bits3:bZZ prg.T3.2 prg.B3=true:=by kernel_rfl
def stx.T3:Bool × List (List Nat × List Nat):=(true,[([],[]),([],[]),([0,1,0,1],[0])])
def stx.B3:List Nat:=[0,0,3]
theorem stx.tab3:rtab .any (cZF Try.f15 3)=stx.T3:=by kernel_rfl
theorem stx.bits3:bZZ stx.T3.2 stx.B3=true:=by kernel_rfl
theorem cZM {o:Oper} {a:Act} {w:World} {x:Operand} {g:Nat} {n i:Int} (ho:o.op=.load 41 x) (hx:a.eval x=.pointer (some ⟨g,0,none⟩)) (hg:w.heap[g]?=some (rdO n i)):(execOp a.eval o).run Try.prog w=.ok (.value (rdV n i)) w:=by
  unfold execOp
  simp only [ho,hx,Instr.loadAt,Instr.sureAddr,Sem.run_bind,Sem.run_pure,Result.andThen_ok,run_loadVar_row (P:=Try.prog) w g 41 41 (rdC n i) (0,0) _ hg Try.underlying41 rfl (by kernel_rfl)]
theorem cZp (W:World) (Z:Nat) (a b:Value) (k:Nat) (hk:k≠Z):((W.setCell ⟨Z,0,none⟩ a).setCell ⟨Z,1,none⟩ b).heap[k]?=W.heap[k]?:=by
  rw [Below.heap_setCell _ _ _ _ (by simpa using hk),Below.heap_setCell _ _ _ _ (by simpa using hk)]
theorem results13 (tmps:Array Value) (w:World) (P Q:Nat) (a b:Value) (n i:Int) (h2:tmps.getD 2 undef=.pointer (some ⟨P,0,none⟩)) (h3:tmps.getD 3 undef=.pointer (some ⟨Q,0,none⟩)) (hP:w.heap[P]?=some (.cells #[a,b] 31 (0,0))) (hQ:w.heap[Q]?=some (rdO n i)) :
    (results Try.f13 tmps).run Try.prog w=.ok (.tuple #[.agg #[a,b],rdV n i]) w:=by
  have hl:=run_loadVar_row (P:=Try.prog) w P 31 31 #[a,b] (0,0) _ hP Try.underlying31 rfl (by kernel_rfl)
  have hl2:=run_loadVar_row (P:=Try.prog) w Q 41 41 _ (0,0) _ hQ Try.underlying41 rfl (by kernel_rfl)
  have h2':tmps[2]?.getD undef=.pointer (some ⟨P,0,none⟩):=by simpa using h2
  have h3':tmps[3]?.getD undef=.pointer (some ⟨Q,0,none⟩):=by simpa using h3
  simp [results,Try.results13,h2',h3',asAddr,hl,hl2]
theorem results15 (tmps:Array Value) (w:World) (Q:Nat) (v:Value) (n i:Int) (h2:tmps.getD 2 undef=v) (h3:tmps.getD 3 undef=.pointer (some ⟨Q,0,none⟩)) (hQ:w.heap[Q]?=some (rdO n i)) :
    (results Try.f15 tmps).run Try.prog w=.ok (.tuple #[v,rdV n i]) w:=by
  have hl2:=run_loadVar_row (P:=Try.prog) w Q 41 41 _ (0,0) _ hQ Try.underlying41 rfl (by kernel_rfl)
  have h2':tmps[2]?.getD undef=v:=by simpa using h2
  have h3':tmps[3]?.getD undef=.pointer (some ⟨Q,0,none⟩):=by simpa using h3
  simp [results,Try.results15,h2',h3',asAddr,hl2]
abbrev kStk:Kd (List Int):=Kd.slice 3 (Kd.int .i64)
def StksEnd (w:World) (r:Except (Int × Int) (List Pr)) (e:Ending) (w':World):Prop :=
  Below w.heap.size w w' ∧
  match r with
  | .error (i,n)=>e=.returned (.tuple #[.slice none 0 0,rdV n i])
  | .ok l=>∃ v,e=.returned (.tuple #[v,rdV 0 0])∧kStk.R 23 w' w.heap.size (fun _=>True) v (l.map Prod.fst)
theorem stks_err (w:World) (A0 A1 A2 A3 A4:Option Addr) (c0 c1 c2 c3 c4:Nat) (g:Pg) (hI:InPg w A0 A1 A2 A3 A4 c0 c1 c2 c3 c4 g) {i n:Int} (hn:n≠0) (hr:bZQ g=.error (i,n))
 (hW:∀ W,InPg W A0 A1 A2 A3 A4 c0 c1 c2 c3 c4 g→Calls Try.prog 31 #[bZE A0 A1 A2 A3 A4 c0 c1 c2 c3 c4 g] W (cZI W (bZQ g))) :
 Calls Try.prog 15 #[bZE A0 A1 A2 A3 A4 c0 c1 c2 c3 c4 g] w (StksEnd w (bZQ g)):=by
 obtain ⟨p0,p1,p2⟩:=bZW w (.cells #[.slice A0 g.T.length c0,.slice A1 g.N.length c1,.slice A2 g.S.length c2,.slice A3 g.M.length c3,.slice A4 g.C.length c4,.int .i64 g.dep,.int .i64 g.loc] 28) (rdO 0 0)
 have hST:StL w ((w.alloc (.cells #[.slice A0 g.T.length c0,.slice A1 g.N.length c1,.slice A2 g.S.length c2,.slice A3 g.M.length c3,.slice A4 g.C.length c4,.int .i64 g.dep,.int .i64 g.loc] 28)).alloc (rdO 0 0)) w.heap.size A0 A1 A2 A3 A4 c0 c1 c2 c3 c4 g:=⟨p2,p0,hI.below p2⟩
 have HW:=hid_ hW
 clear p0 p2 hI hW
 unfold bZE
 go_enter Try.func15,Try.ntmps15
 go_upto_region 1 with (fail)
 generalize (w.alloc (.cells #[.slice A0 g.T.length c0,.slice A1 g.N.length c1,.slice A2 g.S.length c2,.slice A3 g.M.length c3,.slice A4 g.C.length c4,.int .i64 g.dep,.int .i64 g.loc] 28)).alloc (rdO 0 0)=W1 at hST p1 ⊢
 obtain ⟨x0,x1,x2,x3,x4,x5,x6⟩:=bZD hST.box
 have HST:=hid_ hST
 have HF:=hid_ p1
 clear p1 hST
 go_wp2_with (fail)
 clear x0 x1 x2 x3 x4 x5 x6
 refine (show Calls _ _ _ _ _ from HW.out W1 HST.out.pg).mono ?_
 rw [hr]
 rintro e W2 ⟨bel,he⟩
 obtain rfl:=he
 have e0:(n == 0)=false:=by rw [beq_eq_false_iff_ne];exact hn
 have hF2:=aZp HF.out bel
 have hA:=heap_alloc_new W2 (rdO 0 0)
 have hb2:=aZb (Below.refl W2.heap.size W2) (rdO 0 0)
 go_upto_region 2 with ((with_reducible refine aZO (t:=41) (p:=5) rfl ?_);refine wpList_store_row rfl 41 (.tmp 5) (.tmp 12) rfl W2.heap.size (rdC n i) rfl rfl 41 (rdC 0 0) hA (bZB n i) (bZu 0 0 n i) (cZr n i) ?_)
 have hB5:=setRow_heap _ _ _ (rdC n i) _ _ hA
 have hb3:Below W2.heap.size W2 ((W2.alloc (rdO 0 0)).setRow W2.heap.size (rdC n i)):=below_setRow hb2 (Nat.le_refl _) _
 have hF3:=aZp hF2 hb3
 have hbw:=HST.out.below.trans ((bel.trans (hb3.mono bel.size)).mono HST.out.below.size)
 clear hA hb2 hF2 bel HST HF HW hb3
 generalize (W2.alloc (rdO 0 0)).setRow W2.heap.size (rdC n i)=W at hB5 hF3 hbw ⊢
 generalize W2.heap.size=b5 at hB5 ⊢
 have y0:W.cell? ⟨b5,0,none⟩=some (.int .i64 n):=by simp [World.cell?,hB5]
 have HB5:=hid_ hB5
 have HBF:=hid_ hF3
 have HBW:=hid_ hbw
 have HHR:=hid_ hr
 clear hB5 hF3 hbw hr hn
 go_upto_region 3 with (fail)
 clear y0 e0
 go_cut [2] (fun s2 wx=>s2=.slice none 0 0∧wx=W.drew.setRow (w.heap.size+1) (rdC n i))
 case first =>
  refine dZP (n:=3) (S:=fun w'=>(w'.heap[b5]?=some (rdO n i)∧w'.heap[w.heap.size+1]?=some (rdO 0 0))) (ds:=[2]) (bm 3 0) (by kernel_rfl) rfl (by kernel_rfl) ⟨HB5.out,HBF.out⟩ (fun hHeld=>?_)
  refine bZY stx.tab3 stx.bits3 (fun HT_ HW_=>?_)
  refine aZZ (i:=1) (N:=some 2) (v:=?_) (a':=?_) (bm 3 2) rfl rfl (aZF HT_.out (by kernel_rfl)) (fun _ _ _ h=>h) (Or.inl ⟨by rfl,?_⟩) ?_ ?_
  rotate_left
  ·
   intro w'
   go_simp
   with_reducible rfl
  rotate_left
  ·
   simp only [Act.put,List.setIfInBounds_toArray,List.set_cons_zero,List.set_cons_succ]
   rfl
  refine take_ (i:=0) (N:=some 16) (v:=?_) (a':=?_) (bm 3 3) rfl rfl (aZV HT_.out HW_.out (by kernel_rfl)) (fun _ _ _ h=>h) (Or.inl ⟨by rfl,?_⟩) hHeld ?_ ?_
  rotate_left
  ·
   intro w' hS'
   refine cZM (x:=.tmp 5) (g:=b5) (n:=n) (i:=i) ?h1 ?h2 ?h3
   case h3=>exact hS'.1
   case h1=>exact rfl
   exact rfl
  rotate_left
  ·
   simp only [Act.put,List.setIfInBounds_toArray,List.set_cons_zero,List.set_cons_succ]
   rfl
  refine last_ (i:=2) (N:=none) (bm 3 7) rfl rfl (bZt HT_.out (by kernel_rfl)) (by decide) (fun K hK=>?_)
  rw [if_pos (by rfl)]
  refine wp_store_row 41 (.tmp 3) (.tmp 16) rfl (w.heap.size+1) (rdC n i) rfl rfl 41 (rdC 0 0) hHeld.2 (bZB n i) (bZu 0 0 n i) (cZr n i) ?_
  refine hK.out _ _ ?_
  clear hK K
  refine fZ2 (cZ1 HT_.out (by kernel_rfl)) ?_
  go_wp2_with (fail)
  go_meet
  exact ⟨rfl,rfl⟩
 case rest =>
  obtain ⟨rfl,rfl⟩:=hcut
  go_wp2_with (fail)
  refine bodyPost_ret (results15 _ _ (w.heap.size+1) (.slice none 0 0) n i ?_ ?_ (setRow_heap W.drew _ _ _ _ _ HBF.out)) ?_ ?_
  · kernel_rfl
  · kernel_rfl
  · kernel_rfl
  ·
   rw [HHR.out]
   exact ⟨below_setRow HBW.out.drew (by omega) _,rfl⟩
theorem eZl (l:List Pr) (j:Nat) (h:j<l.length):l.take (j+1)=l.take j++[l.getD j ([],[])]:=by
  rw [List.getD_eq_getElem?_getD,List.getElem?_eq_getElem h]
  exact (List.take_append_getElem h).symm
theorem stk_setRow {W:World} {base F:Nat} {ok:Nat→Prop} {v:Value} {l:List (List Int)} {cs:Array Value} (h:kStk.R 23 W base ok v l) (hF:W.heap[F]?=some (rdO 0 0)):kStk.R 23 (W.setRow F cs) base (fun _=>True) v l :=
  Kd.R_mono (Kd.R_step (Kd.R_types h hF (by decide)) (fun k hk _=>bZk W F cs k hk.2)) (fun _ _=>trivial)
theorem stks_ok (w:World) (A0 A1 A2 A3 A4:Option Addr) (c0 c1 c2 c3 c4:Nat) (g:Pg) (hI:InPg w A0 A1 A2 A3 A4 c0 c1 c2 c3 c4 g) {l:List Pr} (hr:bZQ g=.ok l) (hll:l.length≤40000)
 (hW:∀ W,InPg W A0 A1 A2 A3 A4 c0 c1 c2 c3 c4 g→Calls Try.prog 31 #[bZE A0 A1 A2 A3 A4 c0 c1 c2 c3 c4 g] W (cZI W (bZQ g))) :
 Calls Try.prog 15 #[bZE A0 A1 A2 A3 A4 c0 c1 c2 c3 c4 g] w (StksEnd w (bZQ g)):=by
 obtain ⟨p0,p1,p2⟩:=bZW w (.cells #[.slice A0 g.T.length c0,.slice A1 g.N.length c1,.slice A2 g.S.length c2,.slice A3 g.M.length c3,.slice A4 g.C.length c4,.int .i64 g.dep,.int .i64 g.loc] 28) (rdO 0 0)
 have hST:StL w ((w.alloc (.cells #[.slice A0 g.T.length c0,.slice A1 g.N.length c1,.slice A2 g.S.length c2,.slice A3 g.M.length c3,.slice A4 g.C.length c4,.int .i64 g.dep,.int .i64 g.loc] 28)).alloc (rdO 0 0)) w.heap.size A0 A1 A2 A3 A4 c0 c1 c2 c3 c4 g:=⟨p2,p0,hI.below p2⟩
 have HW:=hid_ hW
 clear p0 p2 hI hW
 unfold bZE
 go_enter Try.func15,Try.ntmps15
 go_upto_region 1 with (fail)
 generalize (w.alloc (.cells #[.slice A0 g.T.length c0,.slice A1 g.N.length c1,.slice A2 g.S.length c2,.slice A3 g.M.length c3,.slice A4 g.C.length c4,.int .i64 g.dep,.int .i64 g.loc] 28)).alloc (rdO 0 0)=W1 at hST p1 ⊢
 obtain ⟨x0,x1,x2,x3,x4,x5,x6⟩:=bZD hST.box
 have HST:=hid_ hST
 have HF:=hid_ p1
 clear p1 hST
 go_wp2_with (fail)
 clear x0 x1 x2 x3 x4 x5 x6
 refine (show Calls _ _ _ _ _ from HW.out W1 HST.out.pg).mono ?_
 rw [hr]
 rintro e W2 ⟨bel,he⟩
 obtain ⟨v,rfl,hv⟩:=he
 have hF2:=aZp HF.out bel
 have hA:=heap_alloc_new W2 (rdO 0 0)
 have hb2:=aZb (Below.refl W2.heap.size W2) (rdO 0 0)
 go_upto_region 2 with ((with_reducible refine aZO (t:=41) (p:=5) rfl ?_);refine wpList_store_row rfl 41 (.tmp 5) (.tmp 12) rfl W2.heap.size (rdC 0 0) rfl rfl 41 (rdC 0 0) hA (bZB 0 0) (bZu 0 0 0 0) (cZr 0 0) ?_)
 have hB5:=setRow_heap _ _ _ (rdC 0 0) _ _ hA
 have hb3:Below W2.heap.size W2 ((W2.alloc (rdO 0 0)).setRow W2.heap.size (rdC 0 0)):=below_setRow hb2 (Nat.le_refl _) _
 have hF3:=aZp hF2 hb3
 have hbw:=HST.out.below.trans ((bel.trans (hb3.mono bel.size)).mono HST.out.below.size)
 have hv3:=Kd.R_lower (Kd.R_below hv hb3) HST.out.below.size
 clear hA hb2 hF2 bel HST HF HW hb3 hv
 generalize (W2.alloc (rdO 0 0)).setRow W2.heap.size (rdC 0 0)=W at hB5 hF3 hbw hv3 ⊢
 generalize W2.heap.size=b5 at hB5 ⊢
 obtain ⟨Av,cv,rfl⟩:=Kd.R_slice hv3
 have y0:W.cell? ⟨b5,0,none⟩=some (.int .i64 0):=by simp [World.cell?,hB5]
 have HV:=hid_ (And.intro hv3 (And.intro hF3 hbw))
 have HHR:=hid_ hr
 clear hB5 hF3 hbw hr hv3
 go_wp2_with (fail)
 clear y0
 go_loopw [6,7] (fun s6 s7 wr=>∃ j:Nat,s7=.int .i64 j∧j≤l.length∧kStk.R 23 wr w.heap.size (fun _=>True) s6 ((l.take j).map Prod.fst)∧kSt.R 94 wr w.heap.size (fun _=>True) (.slice Av l.length cv) l∧wr.heap[w.heap.size+1]?=some (rdO 0 0)∧Below w.heap.size w wr) (fun _ s7 _=>l.length - (intOf s7).toNat)
 case atStart=>exact ⟨0,rfl,Nat.zero_le _,Kd.R_nil _ _ _ _ _,HV.out.1,HV.out.2.1,HV.out.2.2⟩
 case round =>
  obtain ⟨j,rfl,hj,ho,hv,hF,hbw⟩:=hrel
  by_cases hlt:j<l.length
  ·
   obtain ⟨ad,c,B1,d1,B2,d2,hve,k0,-,r1,-⟩:=gZe (I:=fun _=>False) hv (fun _ _ h=>h) j hlt
   simp only [Value.slice.injEq] at hve
   obtain ⟨rfl,-,rfl⟩:=hve
   have i0:(0:Int)≤(j:Int):=by omega
   have i1:(j:Int)<(l.length:Int):=by omega
   have hM:kStk.M wr w.heap.size (fun k=>True∧some k≠u6.ownBlock) (l.getD j ([],[])).1 [.slice B1 (l.getD j ([],[])).1.length d1]:=⟨_,rfl,Kd.R_mono (Kd.R_apart' r1 (Kd.R_typed ho) (by decide)) (fun _ hk=>⟨trivial,hk.2⟩)⟩
   have hlen:(((l.take j).map Prod.fst).length+1)*24≤140737488355328:=by rw [List.length_map,List.length_take];omega
   have HH:=hid_ (And.intro ho (And.intro hv (And.intro hF (And.intro hbw hM))))
   clear ho hv hF hbw hM r1
   generalize hp:(l.getD j ([],[])).1=p at k0 HH
   have HP:=hid_ hp
   clear hp
   go_wp2_with ((with_reducible refine aZw (b:=.append) (xs:=#[.tmp 23,.tmp 29]) rfl ?_);at_builtin;refine Kd.R_append kStk (w0:=wr) w.heap.size rfl (.tmp 23) (.tmp 29) 25 23 (.slice none 0 0) 24 rfl Try.underlying25 info23_ rfl (by decide) (by omega) u6 ((l.take j).map Prod.fst) p [.slice B1 p.length d1] (fun _=>True) _ rfl rfl HH.out.2.2.2.2 (fun _ hk=>hk) (fun _ _=>trivial) HH.out.1 (Below.refl _ _) HH.out.2.2.2.1.size hlen ?_;intro v2 w2 hr2 hbb2 hg2 _)
   have h1:=Kd.R_over' HH.out.2.1 (Kd.R_typed HH.out.1) (by decide) hg2
   have h2:=(hg2.block _ (aZn HH.out.2.2.1) (Kd.R_ne HH.out.1 HH.out.2.2.1 (by decide))).trans HH.out.2.2.1
   have h3:kStk.R 23 w2 w.heap.size (fun _=>True) v2 ((l.take (j+1)).map Prod.fst):=by
    rw [eZl l j hlt,List.map_append,List.map_singleton,HP.out]
    exact hr2
   have h4:=HH.out.2.2.2.1.trans hbb2
   clear hr2 hbb2 hg2 hlen
   go_roundw
   case rel=>exact ⟨j+1,by go_num,hlt,h3,h1,h2,h4⟩
   case measure=>simp [intOf];omega
  ·
   have hje:j=l.length:=by omega
   have hge:¬(j:Int)<(l.length:Int):=by omega
   rw [hje,List.take_length] at ho
   have HH:=hid_ (And.intro ho (And.intro hF hbw))
   clear ho hv hF hbw hje hlt
   go_wp2_with ((with_reducible refine aZO (t:=41) (p:=3) rfl ?_);refine wpList_store_row rfl 41 (.tmp 3) (.tmp 32) rfl (w.heap.size+1) (rdC 0 0) rfl rfl 41 (rdC 0 0) HH.out.2.1 (bZB 0 0) (bZu 0 0 0 0) (cZr 0 0) ?_)
   refine bodyPost_ret (results15 _ _ (w.heap.size+1) u6 0 0 ?_ ?_ (setRow_heap _ _ _ _ _ _ HH.out.2.1)) ?_ ?_
   · kernel_rfl
   · kernel_rfl
   · kernel_rfl
   ·
    rw [HHR.out]
    exact ⟨below_setRow HH.out.2.2 (by omega) _,u6,rfl,stk_setRow HH.out.1 HH.out.2.1⟩
def PrgEnd (w:World) (n0:Nat) (r:Except (Int × Int) (List Pr)) (e:Ending) (w':World):Prop :=
  Below w.heap.size w w' ∧
  match r with
  | .error (i,n)=>e=.returned (.tuple #[.agg #[.int .i64 0,.int .i64 0],rdV n i])
  | .ok l=>e=.returned (.tuple #[.agg #[.int .i64 (dZg l),.int .i64 n0],rdV 0 0])
theorem prg_err (w:World) (A0 A1 A2 A3 A4:Option Addr) (c0 c1 c2 c3 c4:Nat) (g:Pg) (hI:InPg w A0 A1 A2 A3 A4 c0 c1 c2 c3 c4 g) {i n:Int} (hn:n≠0) (hr:bZQ g=.error (i,n))
 (hW:∀ W,InPg W A0 A1 A2 A3 A4 c0 c1 c2 c3 c4 g→Calls Try.prog 31 #[bZE A0 A1 A2 A3 A4 c0 c1 c2 c3 c4 g] W (cZI W (bZQ g))) :
 Calls Try.prog 13 #[bZE A0 A1 A2 A3 A4 c0 c1 c2 c3 c4 g] w (PrgEnd w g.C.length (bZQ g)):=by
 obtain ⟨p0,p1,p2,p3⟩:=cZB w (.cells #[.slice A0 g.T.length c0,.slice A1 g.N.length c1,.slice A2 g.S.length c2,.slice A3 g.M.length c3,.slice A4 g.C.length c4,.int .i64 g.dep,.int .i64 g.loc] 28) (.cells #[.int .i64 0,.int .i64 0] 31) (rdO 0 0)
 have hST:StL w (((w.alloc (.cells #[.slice A0 g.T.length c0,.slice A1 g.N.length c1,.slice A2 g.S.length c2,.slice A3 g.M.length c3,.slice A4 g.C.length c4,.int .i64 g.dep,.int .i64 g.loc] 28)).alloc (.cells #[.int .i64 0,.int .i64 0] 31)).alloc (rdO 0 0)) w.heap.size A0 A1 A2 A3 A4 c0 c1 c2 c3 c4 g:=⟨p3,p0,hI.below p3⟩
 have HW:=hid_ hW
 clear p0 p3 hI hW
 unfold bZE
 go_enter Try.func13,Try.ntmps13
 go_upto_region 1 with (fail)
 generalize ((w.alloc (.cells #[.slice A0 g.T.length c0,.slice A1 g.N.length c1,.slice A2 g.S.length c2,.slice A3 g.M.length c3,.slice A4 g.C.length c4,.int .i64 g.dep,.int .i64 g.loc] 28)).alloc (.cells #[.int .i64 0,.int .i64 0] 31)).alloc (rdO 0 0)=W1 at hST p1 p2 ⊢
 obtain ⟨x0,x1,x2,x3,x4,x5,x6⟩:=bZD hST.box
 have HST:=hid_ hST
 have HF:=hid_ (And.intro p1 p2)
 clear p1 p2 hST
 go_wp2_with (fail)
 clear x0 x1 x2 x3 x4 x5 x6
 refine (show Calls _ _ _ _ _ from HW.out W1 HST.out.pg).mono ?_
 rw [hr]
 rintro e W2 ⟨bel,he⟩
 obtain rfl:=he
 have e0:(n == 0)=false:=by rw [beq_eq_false_iff_ne];exact hn
 have hS2:=aZp HF.out.1 bel
 have hF2:=aZp HF.out.2 bel
 have hA:=heap_alloc_new W2 (rdO 0 0)
 have hb2:=aZb (Below.refl W2.heap.size W2) (rdO 0 0)
 go_upto_region 2 with ((with_reducible refine aZO (t:=41) (p:=5) rfl ?_);refine wpList_store_row rfl 41 (.tmp 5) (.tmp 12) rfl W2.heap.size (rdC n i) rfl rfl 41 (rdC 0 0) hA (bZB n i) (bZu 0 0 n i) (cZr n i) ?_)
 have hB5:=setRow_heap _ _ _ (rdC n i) _ _ hA
 have hb3:Below W2.heap.size W2 ((W2.alloc (rdO 0 0)).setRow W2.heap.size (rdC n i)):=below_setRow hb2 (Nat.le_refl _) _
 have hS3:=aZp hS2 hb3
 have hF3:=aZp hF2 hb3
 have hbw:=HST.out.below.trans ((bel.trans (hb3.mono bel.size)).mono HST.out.below.size)
 have hlt2:=aZn hS2
 clear hA hb2 hF2 hS2 bel HST HF HW hb3
 generalize (W2.alloc (rdO 0 0)).setRow W2.heap.size (rdC n i)=W at hB5 hF3 hS3 hbw ⊢
 generalize W2.heap.size=b5 at hB5 hlt2 ⊢
 have y0:W.cell? ⟨b5,0,none⟩=some (.int .i64 n):=by simp [World.cell?,hB5]
 have HB5:=hid_ hB5
 have HBF:=hid_ hF3
 have HBS:=hid_ hS3
 have HBW:=hid_ hbw
 have HHR:=hid_ hr
 have HNE:=hid_ (show b5≠w.heap.size+1∧True from ⟨by omega,trivial⟩)
 clear hB5 hF3 hS3 hbw hr hn hlt2
 go_upto_region 3 with (fail)
 clear y0 e0
 go_cut [] (fun wx=>wx=((W.drew.setCell ⟨w.heap.size+1,0,none⟩ (.int .i64 0)).setCell ⟨w.heap.size+1,1,none⟩ (.int .i64 0)).setRow (w.heap.size+1+1) (rdC n i))
 case first =>
  refine dZP (n:=4) (S:=fun w'=>(w'.heap[b5]?=some (rdO n i)∧w'.heap[w.heap.size+1+1]?=some (rdO 0 0))) (ds:=[3]) (bm 4 0) (by kernel_rfl) rfl (by kernel_rfl) ⟨HB5.out,HBF.out⟩ (fun hHeld=>?_)
  refine bZY prg.tab3 prg.bits3 (fun HT_ HW_=>?_)
  refine aZZ (i:=0) (N:=some 16) (v:=?_) (a':=?_) (bm 4 1) rfl rfl (aZF HT_.out (by kernel_rfl)) (fun _ _ _ h=>h) (Or.inl ⟨by rfl,?_⟩) ?_ ?_
  rotate_left
  ·
   intro w'
   go_simp
   with_reducible rfl
  rotate_left
  ·
   simp only [Act.put,List.setIfInBounds_toArray,List.set_cons_zero,List.set_cons_succ]
   rfl
  refine take_ (i:=1) (N:=some 17) (v:=?_) (a':=?_) (bm 4 3) rfl rfl (aZV HT_.out HW_.out (by kernel_rfl)) (fun _ _ _ h=>h) (Or.inl ⟨by rfl,?_⟩) hHeld ?_ ?_
  rotate_left
  ·
   intro w' hS'
   refine cZM (x:=.tmp 5) (g:=b5) (n:=n) (i:=i) ?h1 ?h2 ?h3
   case h3=>exact hS'.1
   case h1=>exact rfl
   exact rfl
  rotate_left
  ·
   simp only [Act.put,List.setIfInBounds_toArray,List.set_cons_zero,List.set_cons_succ]
   rfl
  refine one_ (i:=2) (N:=none) (bm 4 7) rfl rfl (bZt HT_.out (by kernel_rfl)) (by decide) (fun K hK=>?_)
  have y0:W.cell? ⟨w.heap.size+1,0,none⟩=some (.int .i64 0):=by simp [World.cell?,HBS.out]
  have y1:W.cell? ⟨w.heap.size+1,1,none⟩=some (.int .i64 0):=by simp [World.cell?,HBS.out]
  have yf:=froz HBS.out
  go_simp
  refine hK.out _ _ ⟨(cZp W.drew _ _ _ b5 HNE.out.1).trans HB5.out,(cZp W.drew _ _ _ (w.heap.size+1+1) (by omega)).trans HBF.out⟩ (fun hHeld=>?_)
  clear y0 y1 yf
  clear hK K
  refine last_ (i:=3) (N:=none) (bm 4 15) rfl rfl (bZt HT_.out (by kernel_rfl)) (by decide) (fun K hK=>?_)
  rw [if_pos (by rfl)]
  refine wp_store_row 41 (.tmp 3) (.tmp 17) rfl (w.heap.size+1+1) (rdC n i) rfl rfl 41 (rdC 0 0) hHeld.2 (bZB n i) (bZu 0 0 n i) (cZr n i) ?_
  refine hK.out _ _ ?_
  clear hK K
  refine fZ2 (cZ1 HT_.out (by kernel_rfl)) ?_
  go_wp2_with (fail)
  go_meet
  rfl
 case rest =>
  obtain rfl:=hcut
  have hF4:((W.drew.setCell ⟨w.heap.size+1,0,none⟩ (.int .i64 0)).setCell ⟨w.heap.size+1,1,none⟩ (.int .i64 0)).heap[w.heap.size+1+1]?=some (rdO 0 0):=(cZp W.drew _ _ _ (w.heap.size+1+1) (by omega)).trans HBF.out
  have hS4:((W.drew.setCell ⟨w.heap.size+1,0,none⟩ (.int .i64 0)).setCell ⟨w.heap.size+1,1,none⟩ (.int .i64 0)).heap[w.heap.size+1]?=some (.cells #[.int .i64 0,.int .i64 0] 31 (0,0)):=bZH W.drew _ _ _ ⟨_,_,HBS.out⟩
  have HH:=hid_ (And.intro hF4 hS4)
  clear hF4 hS4
  go_wp2_with (fail)
  refine bodyPost_ret (results13 _ _ (w.heap.size+1) (w.heap.size+1+1) (.int .i64 0) (.int .i64 0) n i ?_ ?_ ((bZk _ _ _ _ (by omega)).trans HH.out.2) (setRow_heap _ _ _ _ _ _ HH.out.1)) ?_ ?_
  · kernel_rfl
  · kernel_rfl
  · kernel_rfl
  ·
   rw [HHR.out]
   exact ⟨below_setRow ((HBW.out.drew.setCell (by simp) _).setCell (by simp) _) (by omega) _,rfl⟩
theorem prg_ok (w:World) (A0 A1 A2 A3 A4:Option Addr) (c0 c1 c2 c3 c4:Nat) (g:Pg) (hI:InPg w A0 A1 A2 A3 A4 c0 c1 c2 c3 c4 g) {l:List Pr} (hr:bZQ g=.ok l) (hll:l.length≤40000)
 (hW:∀ W,InPg W A0 A1 A2 A3 A4 c0 c1 c2 c3 c4 g→Calls Try.prog 31 #[bZE A0 A1 A2 A3 A4 c0 c1 c2 c3 c4 g] W (cZI W (bZQ g))) :
 Calls Try.prog 13 #[bZE A0 A1 A2 A3 A4 c0 c1 c2 c3 c4 g] w (PrgEnd w g.C.length (bZQ g)):=by
 obtain ⟨p0,p1,p2,p3⟩:=cZB w (.cells #[.slice A0 g.T.length c0,.slice A1 g.N.length c1,.slice A2 g.S.length c2,.slice A3 g.M.length c3,.slice A4 g.C.length c4,.int .i64 g.dep,.int .i64 g.loc] 28) (.cells #[.int .i64 0,.int .i64 0] 31) (rdO 0 0)
 have hST:StL w (((w.alloc (.cells #[.slice A0 g.T.length c0,.slice A1 g.N.length c1,.slice A2 g.S.length c2,.slice A3 g.M.length c3,.slice A4 g.C.length c4,.int .i64 g.dep,.int .i64 g.loc] 28)).alloc (.cells #[.int .i64 0,.int .i64 0] 31)).alloc (rdO 0 0)) w.heap.size A0 A1 A2 A3 A4 c0 c1 c2 c3 c4 g:=⟨p3,p0,hI.below p3⟩
 have HW:=hid_ hW
 clear p0 p3 hI hW
 unfold bZE
 go_enter Try.func13,Try.ntmps13
 go_upto_region 1 with (fail)
 generalize ((w.alloc (.cells #[.slice A0 g.T.length c0,.slice A1 g.N.length c1,.slice A2 g.S.length c2,.slice A3 g.M.length c3,.slice A4 g.C.length c4,.int .i64 g.dep,.int .i64 g.loc] 28)).alloc (.cells #[.int .i64 0,.int .i64 0] 31)).alloc (rdO 0 0)=W1 at hST p1 p2 ⊢
 obtain ⟨x0,x1,x2,x3,x4,x5,x6⟩:=bZD hST.box
 have HST:=hid_ hST
 have HF:=hid_ (And.intro p1 p2)
 clear p1 p2 hST
 go_wp2_with (fail)
 clear x0 x1 x2 x3 x4 x5 x6
 refine (show Calls _ _ _ _ _ from HW.out W1 HST.out.pg).mono ?_
 rw [hr]
 rintro e W2 ⟨bel,he⟩
 obtain ⟨v,rfl,hv⟩:=he
 have hS2:=aZp HF.out.1 bel
 have hF2:=aZp HF.out.2 bel
 have hX2:=aZp HST.out.box bel
 have hA:=heap_alloc_new W2 (rdO 0 0)
 have hb2:=aZb (Below.refl W2.heap.size W2) (rdO 0 0)
 go_upto_region 2 with ((with_reducible refine aZO (t:=41) (p:=5) rfl ?_);refine wpList_store_row rfl 41 (.tmp 5) (.tmp 12) rfl W2.heap.size (rdC 0 0) rfl rfl 41 (rdC 0 0) hA (bZB 0 0) (bZu 0 0 0 0) (cZr 0 0) ?_)
 have hB5:=setRow_heap _ _ _ (rdC 0 0) _ _ hA
 have hb3:Below W2.heap.size W2 ((W2.alloc (rdO 0 0)).setRow W2.heap.size (rdC 0 0)):=below_setRow hb2 (Nat.le_refl _) _
 have hS3:=aZp hS2 hb3
 have hF3:=aZp hF2 hb3
 have hX3:=aZp hX2 hb3
 have hbw:=HST.out.below.trans ((bel.trans (hb3.mono bel.size)).mono HST.out.below.size)
 have hv3:=Kd.R_lower (Kd.R_below hv hb3) HST.out.below.size
 clear hA hb2 hF2 hS2 hX2 bel HST HF HW hb3 hv
 generalize (W2.alloc (rdO 0 0)).setRow W2.heap.size (rdC 0 0)=W at hB5 hF3 hS3 hX3 hbw hv3 ⊢
 generalize W2.heap.size=b5 at hB5 ⊢
 obtain ⟨Av,cv,rfl⟩:=Kd.R_slice hv3
 have y0:W.cell? ⟨b5,0,none⟩=some (.int .i64 0):=by simp [World.cell?,hB5]
 have HV:=hid_ (And.intro hv3 (And.intro hF3 (And.intro hS3 (And.intro hX3 hbw))))
 have HHR:=hid_ hr
 clear hB5 hF3 hS3 hX3 hbw hr hv3
 go_wp2_with (fail)
 clear y0
 go_loopw [6,7] (fun s6 s7 wr=>∃ j:Nat,s7=.int .i64 j∧s6=.int .i64 (dZg (l.take j))∧j≤l.length∧wr=W) (fun _ s7 _=>l.length - (intOf s7).toNat)
 case atStart=>exact ⟨0,rfl,rfl,Nat.zero_le _,rfl⟩
 case round =>
  obtain ⟨j,rfl,rfl,hj,hw⟩:=hrel
  rw [hw]
  clear hw wr
  by_cases hlt:j<l.length
  ·
   obtain ⟨ad,c,B1,d1,B2,d2,hve,k0,-,-,-⟩:=gZe (I:=fun _=>False) HV.out.1 (fun _ _ h=>h) j hlt
   simp only [Value.slice.injEq] at hve
   obtain ⟨rfl,-,rfl⟩:=hve
   have i0:(0:Int)≤(j:Int):=by omega
   have i1:(j:Int)<(l.length:Int):=by omega
   have hsn:=eZA (l.take j) (l.getD j ([],[]))
   rw [←eZl l j hlt] at hsn
   generalize dZg (l.take j)=D at hsn ⊢
   generalize hp:(l.getD j ([],[])).1.length=p at k0 hsn
   have HP:=hid_ hp
   clear hp
   have HSN:=hid_ hsn
   clear hsn
   by_cases hgt:D<(p:Int)
   ·
    have dg:decide ((p:Int) > D)=true:=decide_eq_true hgt
    have hmx:max D (p:Int)=(p:Int):=by omega
    have HMX:=hid_ hmx
    clear hgt hmx
    go_wp2_with (fail)
    go_roundw
    case rel=>exact ⟨j+1,by go_num,by rw [HSN.out,HMX.out],hlt,by first|trivial|rfl⟩
    case measure=>simp [intOf];omega
   ·
    have dg:decide ((p:Int) > D)=false:=decide_eq_false hgt
    have hmx:max D (p:Int)=D:=by omega
    have HMX:=hid_ hmx
    clear hgt hmx
    go_wp2_with (fail)
    go_roundw
    case rel=>exact ⟨j+1,by go_num,by rw [HSN.out,HMX.out],hlt,by first|trivial|rfl⟩
    case measure=>simp [intOf];omega
  ·
   have hje:j=l.length:=by omega
   have hge:¬(j:Int)<(l.length:Int):=by omega
   have hdl:dZg (l.take j)=dZg l:=by rw [hje,List.take_length]
   rw [hdl]
   generalize hD:dZg l=D
   have HD:=hid_ hD
   obtain ⟨x0,x1,x2,x3,x4,x5,x6⟩:=bZD HV.out.2.2.2.1
   have z0:W.cell? ⟨w.heap.size+1,0,none⟩=some (.int .i64 0):=by simp [World.cell?,HV.out.2.2.1]
   have z1:W.cell? ⟨w.heap.size+1,1,none⟩=some (.int .i64 0):=by simp [World.cell?,HV.out.2.2.1]
   have zf:=froz HV.out.2.2.1
   have hF4:((W.setCell ⟨w.heap.size+1,0,none⟩ (.int .i64 D)).setCell ⟨w.heap.size+1,1,none⟩ (.int .i64 g.C.length)).heap[w.heap.size+1+1]?=some (rdO 0 0):=(cZp W _ _ _ (w.heap.size+1+1) (by omega)).trans HV.out.2.1
   have hS4:((W.setCell ⟨w.heap.size+1,0,none⟩ (.int .i64 D)).setCell ⟨w.heap.size+1,1,none⟩ (.int .i64 g.C.length)).heap[w.heap.size+1]?=some (.cells #[.int .i64 D,.int .i64 g.C.length] 31 (0,0)):=bZH W _ _ _ ⟨_,_,HV.out.2.2.1⟩
   have HH:=hid_ (And.intro hF4 hS4)
   clear hF4 hS4 hje hlt hdl hD
   go_wp2_with ((with_reducible refine aZO (t:=41) (p:=3) rfl ?_);refine wpList_store_row rfl 41 (.tmp 3) (.tmp 43) rfl (w.heap.size+1+1) (rdC 0 0) rfl rfl 41 (rdC 0 0) HH.out.1 (bZB 0 0) (bZu 0 0 0 0) (cZr 0 0) ?_)
   refine bodyPost_ret (results13 _ _ (w.heap.size+1) (w.heap.size+1+1) (.int .i64 D) (.int .i64 g.C.length) 0 0 ?_ ?_ ((bZk _ _ _ _ (by omega)).trans HH.out.2) (setRow_heap _ _ _ _ _ _ HH.out.1)) ?_ ?_
   · kernel_rfl
   · kernel_rfl
   · kernel_rfl
   ·
    rw [HHR.out]
    exact ⟨below_setRow ((HV.out.2.2.2.2.setCell (by simp) _).setCell (by simp) _) (by omega) _,by dsimp only;rw [HD.out]⟩
structure Runs (k:Wk) (told:List (List Int)) (m:Int) (Z:List St):Prop where
  len:Z.length=k.C.length
  told:told=Z.map St.stk
  deep:∀ σ∈Z,(σ.stk.length:Int)≤m
  first:∀ σ,Z.head?=some σ→σ.stk=[]∧LeL σ.loc (List.replicate k.loc.toNat 0)
  good:∀ j,j<k.C.length→GoodAt k j (Z.drop j)
theorem runs_of {nT nN nS nM:Nat} {C:List S66} {dep loc:Int} {t:List (List Int)} {m:Int} (h:aZU nT nN nS nM C dep loc=.ok (t,m)):0<C.length∧C.length≤32768∧∃ Z,Runs (K0 nT nN nS nM C dep loc) t m Z:=by
 by_cases hD:aZz nT nN nS nM C dep loc
 · rw [cZO hD] at h;cases h
 rw [cZl hD] at h
 split at h
 · cases h
 rename_i hc
 unfold aZz at hD
 refine ⟨by omega,by omega,?_⟩
 unfold runF at h
 obtain ⟨Z,b1,b2,b3,b4,b5,b6,b7⟩:=eZn (K0 nT nN nS nM C dep loc) (by show 0≤loc;omega) _ 0 ⟨[],List.replicate loc.toNat 0,false⟩ [] [] 0 t m (Nat.zero_add _) (by simp [K0]) (fun x hx=>by cases hx) h
 exact ⟨Z,b1,by simpa using b2,b4,fun σ hσ=>b5 σ hσ,fun j hj=>by have:=b7 j hj;rwa [Nat.zero_add] at this⟩
theorem cZ5 (l:List Int) (hl:l.length≤100000):∀ (d i:Nat),i+d=l.length→berthlaw21_sameCells.l0 (d+1) l l (i:Int)=some true
  | 0,i,h=>by
    rw [berthlaw21_sameCells.l0,if_neg (by omega)]
  | d+1,i,h=>by
    rw [berthlaw21_sameCells.l0,if_pos (by omega),if_pos (by omega),if_pos (by omega),if_pos rfl,show wrap64 ((i:Int)+1)=((i+1:Nat):Int) by rw [wrap_ _ (by omega) (by omega)];push_cast;rfl]
    exact cZ5 l hl d (i+1) (by omega)
theorem eZL (w:World) (A0 A1:Option Addr) (c0 c1:Nat) (l:List Int) (hl:l.length≤100000) (h0:Kd.C (Kd.int .i64) w A0 l.length l) (g0:l.length≤c0) (h1:Kd.C (Kd.int .i64) w A1 l.length l) (g1:l.length≤c1) :
    Calls Try.prog 17 #[.slice A0 l.length c0,.slice A1 l.length c1] w fun e w'=>e=.returned (.bool true)∧Drawn0 w w' :=
  berthlaw21_sameCells.calls (l.length+1) A0 c0 l A1 c1 l true w h0 g0 h1 g1 (by unfold berthlaw21_sameCells.f;rw [if_pos rfl];exact cZ5 l hl l.length 0 (Nat.zero_add _))
theorem dZH (w:World) (A0 A1 A2 A3 A4:Option Addr) (c0 c1 c2 c3 c4:Nat) (g:Pg) (hI:InPg w A0 A1 A2 A3 A4 c0 c1 c2 c3 c4 g) (f:Fits g) :
 Calls Try.prog 31 #[bZE A0 A1 A2 A3 A4 c0 c1 c2 c3 c4 g] w (cZI w (bZQ g)):=by
 by_cases hD:aZz g.T.length g.N.length g.S.length g.M.length g.C g.dep g.loc
 · exact dZw w A0 A1 A2 A3 A4 c0 c1 c2 c3 c4 g hI f (.inl hD)
 ·
  by_cases hn:g.C.length=0
  · exact dZw w A0 A1 A2 A3 A4 c0 c1 c2 c3 c4 g hI f (.inr hn)
  · exact walk_runs w A0 A1 A2 A3 A4 c0 c1 c2 c3 c4 g hI hD hn
theorem cZ3 (g:Pg):(∃ i n,aZY g=.error (i,n)∧bZQ g=.error (i,n)∧n≠0)∨∃ t m l,aZY g=.ok (t,m)∧bZQ g=.ok l∧t=l.map Prod.fst∧m=dZg l∧l.length≤32768∧t.length=g.C.length:=by
  have h:=gZA g.T.length g.N.length g.S.length g.M.length g.C g.dep g.loc
  cases ha:aZY g with
  | error x =>
    obtain ⟨i,n⟩:=x
    have ha':aZU g.T.length g.N.length g.S.length g.M.length g.C g.dep g.loc=.error (i,n):=ha
    rw [ha'] at h
    exact .inl ⟨i,n,rfl,h,eZD g i n (by rw [ha];rfl)⟩
  | ok x =>
    obtain ⟨t,m⟩:=x
    have ha':aZU g.T.length g.N.length g.S.length g.M.length g.C g.dep g.loc=.ok (t,m):=ha
    rw [ha'] at h
    obtain ⟨r,h1,h2,h3⟩:=h
    obtain ⟨-,q2,Z,hZ⟩:=runs_of ha'
    have hl:t.length=g.C.length:=by rw [hZ.told,List.length_map];exact hZ.len
    exact .inr ⟨t,m,r,rfl,h1,h2,h3,by have:t.length=r.length:=(by rw [h2,List.length_map]);omega,hl⟩
theorem refProg_u (w:World) (A0 A1 A2 A3 A4:Option Addr) (c0 c1 c2 c3 c4:Nat) (g:Pg) (hI:InPg w A0 A1 A2 A3 A4 c0 c1 c2 c3 c4 g) (f:Fits g) :
 Calls Try.prog 13 #[bZE A0 A1 A2 A3 A4 c0 c1 c2 c3 c4 g] w fun e w'=>e=.returned (.tuple #[.agg #[.int .i64 (mostR (aZY g)),.int .i64 (stepsR g.C.length (aZY g))],rdV (codeR (errR (aZY g))) (atR (errR (aZY g)))])∧Below w.heap.size w w':=by
 rcases cZ3 g with ⟨i,n,ha,hw,hn⟩ | ⟨t,m,l,ha,hw,ht,hm,hl,-⟩
 ·
  refine (prg_err w A0 A1 A2 A3 A4 c0 c1 c2 c3 c4 g hI hn hw (fun W h=>dZH W A0 A1 A2 A3 A4 c0 c1 c2 c3 c4 g h f)).mono ?_
  rintro e w' ⟨hb,he⟩
  rw [hw] at he
  rw [ha]
  exact ⟨he,hb⟩
 ·
  refine (prg_ok w A0 A1 A2 A3 A4 c0 c1 c2 c3 c4 g hI hw (by omega) (fun W h=>dZH W A0 A1 A2 A3 A4 c0 c1 c2 c3 c4 g h f)).mono ?_
  rintro e w' ⟨hb,he⟩
  rw [hw] at he
  rw [ha,hm]
  exact ⟨he,hb⟩
theorem fZK (w:World) (A0 A1 A2 A3 A4:Option Addr) (c0 c1 c2 c3 c4:Nat) (g:Pg) (hI:InPg w A0 A1 A2 A3 A4 c0 c1 c2 c3 c4 g) (f:Fits g) :
 Calls Try.prog 15 #[bZE A0 A1 A2 A3 A4 c0 c1 c2 c3 c4 g] w fun e w'=>∃ v,e=.returned (.tuple #[v,rdV (codeR (errR (aZY g))) (atR (errR (aZY g)))])∧kStk.R 23 w' w.heap.size (fun _=>True) v (toldR (aZY g))∧Below w.heap.size w w':=by
 rcases cZ3 g with ⟨i,n,ha,hw,hn⟩ | ⟨t,m,l,ha,hw,ht,hm,hl,-⟩
 ·
  refine (stks_err w A0 A1 A2 A3 A4 c0 c1 c2 c3 c4 g hI hn hw (fun W h=>dZH W A0 A1 A2 A3 A4 c0 c1 c2 c3 c4 g h f)).mono ?_
  rintro e w' ⟨hb,he⟩
  rw [hw] at he
  rw [ha]
  exact ⟨_,he,Kd.R_nil _ _ _ _ _,hb⟩
 ·
  refine (stks_ok w A0 A1 A2 A3 A4 c0 c1 c2 c3 c4 g hI hw (by omega) (fun W h=>dZH W A0 A1 A2 A3 A4 c0 c1 c2 c3 c4 g h f)).mono ?_
  rintro e w' ⟨hb,he⟩
  rw [hw] at he
  obtain ⟨v,he,hv⟩:=he
  rw [ha]
  exact ⟨v,he,by rw [show toldR (.ok (t,m))=t from rfl,ht];exact hv,hb⟩
theorem told_len (g:Pg):(toldR (aZY g)).length≤32768:=by
 rcases cZ3 g with ⟨i,n,ha,-,-⟩ | ⟨t,m,l,ha,-,ht,-,hl,-⟩
 · rw [ha];exact Nat.zero_le _
 · rw [ha,show toldR (.ok (t,m))=t from rfl,ht,List.length_map];exact hl
theorem gZB (g:Pg):∀ x∈toldR (aZY g),x.length≤100000:=by
 intro x hx
 rcases cZ3 g with ⟨i,n,ha,-,-⟩ | ⟨t,m,l,ha,-,-,-,-,-⟩
 · rw [ha] at hx;cases hx
 ·
  rw [ha,show toldR (.ok (t,m))=t from rfl] at hx
  have ha':aZU g.T.length g.N.length g.S.length g.M.length g.C g.dep g.loc=.ok (t,m):=ha
  obtain ⟨-,-,Z,hZ⟩:=runs_of ha'
  rw [hZ.told] at hx
  obtain ⟨σ,hσ,rfl⟩:=List.mem_map.1 hx
  have h1:=hZ.deep σ hσ
  by_cases hD:aZz g.T.length g.N.length g.S.length g.M.length g.C g.dep g.loc
  ·
   rw [cZO hD] at ha'
   cases ha'
  ·
   unfold aZz at hD
   have h2:=(audit_wide ha' 128 1024 (by omega) (by omega) (by omega) (by omega)).2.1
   omega
def prs.T7:Bool × List (List Nat × List Nat):=(true,[([],[]),([],[]),([0,1],[0,1]),([2],[2]),([3],[3]),([4,3,3],[3,4]),([3],[3]),([5,6,3],[3,5,6]),([3,7],[3,7]),([8,5],[8]),([9],[9]),([10,9,9],[9,10]),([9],[9]),([11,12,9],[9,11,12]),([9,13],[9,13]),([14,11],[14]),([15],[15]),([16,15],[15,16]),([15],[15]),([18,15],[15,18]),([17,19,15],[15,17,19]),([15,20],[15,20])])
def prs.B7:List Nat:=[0,0,3,7,15,31,15,127,255,511,1023,2047,1023,8191,16383,32767,65535,131071,65535,327679,1048575,2097151]
theorem prs.tab7:rtab .any (cZF Try.f3 7)=prs.T7:=by kernel_rfl
theorem prs.bits7:bZZ prs.T7.2 prs.B7=true:=by kernel_rfl
theorem eZw {o:Oper} {a:Act} {w:World} {x:Operand} {g:Nat} {u v:Value} (ho:o.op=.load 31 x) (hx:a.eval x=.pointer (some ⟨g,0,none⟩)) (hg:w.heap[g]?=some (.cells #[u,v] 31 (0,0))):(execOp a.eval o).run Try.prog w=.ok (.value (.agg #[u,v])) w:=by
  unfold execOp
  simp only [ho,hx,Instr.loadAt,Instr.sureAddr,Sem.run_bind,Sem.run_pure,Result.andThen_ok,run_loadVar_row (P:=Try.prog) w g 31 31 #[u,v] (0,0) _ hg Try.underlying31 rfl (by kernel_rfl)]
theorem row_at {e:Nat} {W:World} {A:Option Addr} {tl:List (List Int)} (h:(Kd.slice e (Kd.int .i64)).C W A tl.length tl) (p:Nat) (hp:p<tl.length) :
    ∃ ad,A=some ad∧∃ Ar cr,W.cell? (ad.add p)=some (.slice Ar (tl.getD p []).length cr)∧(tl.getD p []).length≤cr∧Kd.C (Kd.int .i64) W Ar (tl.getD p []).length (tl.getD p []):=by
  obtain ⟨ad,cs,he,-,⟨Ar,cr,rfl,hl,hC⟩,hc⟩:=Kd.C_get h [] (p:Int) (by omega) (by omega)
  have h0:=hc 0 _ rfl
  rw [Int.toNat_natCast] at h0 hl hC
  rw [show p*(Kd.slice e (Kd.int .i64)).sz+0=p by simp [Kd.slice]] at h0
  exact ⟨ad,he,Ar,cr,h0,hl,hC⟩
theorem fZe (w:World) (A0 A1 A2 A3 A4:Option Addr) (c0 c1 c2 c3 c4:Nat) (g:Pg) (hI:InPg w A0 A1 A2 A3 A4 c0 c1 c2 c3 c4 g) (fb:FitsB g) :
 Calls Try.prog 3 #[bZE A0 A1 A2 A3 A4 c0 c1 c2 c3 c4 g] w fun e w'=>e=.returned (.bool true)∧Below w.heap.size w w':=by
 have f:=fb.fits
 have st:=StL.start w hI
 clear hI
 unfold bZE
 go_enter Try.func3,Try.ntmps3
 go_upto_region 1 with (fail)
 generalize w.alloc (.cells #[.slice A0 g.T.length c0,.slice A1 g.N.length c1,.slice A2 g.S.length c2,.slice A3 g.M.length c3,.slice A4 g.C.length c4,.int .i64 g.dep,.int .i64 g.loc] 28)=W0 at st ⊢
 have ST0:=hid_ st
 clear st
 go_wp2_with (fail)
 refine (wakes_any _).mono ?_
 rintro e W1 ⟨rfl,bel⟩
 have ST1:=hid_ (ST0.out.next bel)
 clear ST0 bel
 go_upto_region 3 with (fail)
 obtain ⟨x0,x1,x2,x3,x4,x5,x6⟩:=bZD ST1.out.box
 go_wp2_with (fail)
 clear x0 x1 x2 x3 x4 x5 x6
 refine (show Calls _ _ _ _ _ from gZr W1 A0 A1 A2 A3 A4 c0 c1 c2 c3 c4 g ST1.out.pg fb).mono ?_
 rintro e W2 ⟨B0,B1,B2,B3,B4,e0,e1,e2,e3,e4,rfl,hI2,bel⟩
 have ST2:=hid_ (ST1.out.next bel)
 clear ST1 bel
 go_wp2_with (fail)
 refine (show Calls _ _ _ _ _ from prog_u W2 B0 B1 B2 B3 B4 e0 e1 e2 e3 e4 g hI2 f).mono ?_
 rintro e W3 ⟨ev,rfl,hev,bel⟩
 have ST3:=hid_ (ST2.out.next bel)
 clear ST2 bel hI2
 generalize hm:mostR (aZY g)=most
 generalize hs:stepsR g.C.length (aZY g)=steps
 have HMS:=hid_ (And.intro hm hs)
 clear hm hs
 go_upto_region 4 with (fail)
 have bel:=aZb (Below.refl W3.heap.size W3) (.cells #[.int .i64 most,.int .i64 steps] 31)
 have s4:=heap_alloc_new W3 (.cells #[.int .i64 most,.int .i64 steps] 31)
 have ST4:=hid_ (ST3.out.next bel)
 have hev4:=hev.below bel
 clear ST3 bel hev
 generalize W3.alloc (.cells #[.int .i64 most,.int .i64 steps] 31)=W4 at s4 ST4 hev4 ⊢
 generalize W3.heap.size=X4 at s4 ⊢
 have HE4:=hid_ (And.intro s4 hev4)
 clear s4 hev4
 obtain ⟨x0,x1,x2,x3,x4,x5,x6⟩:=bZD ST4.out.box
 go_wp2_with (fail)
 clear x0 x1 x2 x3 x4 x5 x6
 refine (show Calls _ _ _ _ _ from refProg_u W4 A0 A1 A2 A3 A4 c0 c1 c2 c3 c4 g ST4.out.pg f).mono ?_
 rintro e W5 ⟨rfl,bel⟩
 rw [HMS.out.1,HMS.out.2]
 have ST5:=hid_ (ST4.out.next bel)
 have HE5:=hid_ (And.intro (aZp HE4.out.1 bel) (HE4.out.2.below bel))
 clear ST4 HE4 bel
 generalize hr:errR (aZY g)=er
 have HER:=hid_ hr
 clear hr
 generalize hcn:codeR er=cn
 generalize hca:atR er=ca
 have HC:=hid_ (And.intro hcn hca)
 clear hcn hca
 obtain ⟨p0,p1,p2⟩:=bZW W5 (.cells #[.int .i64 most,.int .i64 steps] 31) (rdO 0 0)
 go_upto_region 5 with ((with_reducible refine aZO (t:=41) (p:=6) rfl ?_);refine wpList_store_row rfl 41 (.tmp 6) (.tmp 24) rfl (W5.heap.size+1) (rdC cn ca) rfl rfl 41 (rdC 0 0) p1 (bZB cn ca) (bZu 0 0 cn ca) (cZr cn ca) ?_)
 have q0:=(bZk _ (W5.heap.size+1) (rdC cn ca) W5.heap.size (by omega)).trans p0
 have q1:=setRow_heap _ _ _ (rdC cn ca) _ _ p1
 have bel:Below W5.heap.size W5 (((W5.alloc (.cells #[.int .i64 most,.int .i64 steps] 31)).alloc (rdO 0 0)).setRow (W5.heap.size+1) (rdC cn ca)):=below_setRow p2 (by omega) _
 have ST6:=hid_ (ST5.out.next bel)
 have HE6:=hid_ (And.intro (And.intro q0 q1) (And.intro (aZp HE5.out.1 bel) (HE5.out.2.below bel)))
 clear p0 p1 p2 q0 q1 bel ST5 HE5
 generalize ((W5.alloc (.cells #[.int .i64 most,.int .i64 steps] 31)).alloc (rdO 0 0)).setRow (W5.heap.size+1) (rdC cn ca)=W6 at ST6 HE6 ⊢
 generalize W5.heap.size+1=X6 at HE6 ⊢
 generalize W5.heap.size=X5 at HE6 ⊢
 obtain ⟨x0,x1,x2,x3,x4,x5,x6⟩:=bZD ST6.out.box
 go_wp2_with (fail)
 clear x0 x1 x2 x3 x4 x5 x6
 refine (show Calls _ _ _ _ _ from gZr W6 A0 A1 A2 A3 A4 c0 c1 c2 c3 c4 g ST6.out.pg fb).mono ?_
 rintro e W7 ⟨D0,D1,D2,D3,D4,h0,h1,h2,h3,h4,rfl,hI7,bel⟩
 have ST7:=hid_ (ST6.out.next bel)
 have HE7:=hid_ (And.intro (And.intro (aZp HE6.out.1.1 bel) (aZp HE6.out.1.2 bel)) (And.intro (aZp HE6.out.2.1 bel) (HE6.out.2.2.below bel)))
 clear ST6 HE6 bel
 go_wp2_with (fail)
 refine (show Calls _ _ _ _ _ from stacks_u W7 D0 D1 D2 D3 D4 h0 h1 h2 h3 h4 g hI7 f).mono ?_
 rintro e W8 ⟨tv,ev2,rfl,htv,hev2,bel⟩
 have ST8:=hid_ (ST7.out.next bel)
 have HE8:=hid_ (And.intro (And.intro (aZp HE7.out.1.1 bel) (aZp HE7.out.1.2 bel)) (And.intro (aZp HE7.out.2.1 bel) (HE7.out.2.2.below bel)))
 clear ST7 HE7 bel hI7
 obtain ⟨At,ct,rfl⟩:=Kd.R_slice htv
 have HT8:=hid_ (And.intro (Kd.R_reads' htv).2 hev2)
 clear htv hev2
 go_upto_region 6 with (fail)
 obtain ⟨x0,x1,x2,x3,x4,x5,x6⟩:=bZD ST8.out.box
 go_wp2_with (fail)
 clear x0 x1 x2 x3 x4 x5 x6
 refine (show Calls _ _ _ _ _ from fZK W8 A0 A1 A2 A3 A4 c0 c1 c2 c3 c4 g ST8.out.pg f).mono ?_
 rintro e W9 ⟨rv,rfl,hrv,bel⟩
 rw [HER.out,HC.out.1,HC.out.2]
 obtain ⟨Ar,cr,rfl⟩:=Kd.R_slice hrv
 have ST9:=hid_ (ST8.out.next bel)
 have HE9:=hid_ (And.intro (And.intro (aZp HE8.out.1.1 bel) (aZp HE8.out.1.2 bel)) (And.intro (aZp HE8.out.2.1 bel) (HE8.out.2.2.below bel)))
 have HT9:=hid_ (And.intro (And.intro HT8.out.1.1 (Kd.C_below HT8.out.1.2 bel)) (And.intro (HT8.out.2.below bel) (Kd.R_reads' hrv).2))
 clear ST8 HE8 HT8 bel hrv
 have p1:=heap_alloc_new W9 (rdO 0 0)
 have p2:=aZb (Below.refl W9.heap.size W9) (rdO 0 0)
 go_upto_region 7 with ((with_reducible refine aZO (t:=41) (p:=10) rfl ?_);refine wpList_store_row rfl 41 (.tmp 10) (.tmp 35) rfl W9.heap.size (rdC cn ca) rfl rfl 41 (rdC 0 0) p1 (bZB cn ca) (bZu 0 0 cn ca) (cZr cn ca) ?_)
 have q1:=setRow_heap _ _ _ (rdC cn ca) _ _ p1
 have bel:Below W9.heap.size W9 ((W9.alloc (rdO 0 0)).setRow W9.heap.size (rdC cn ca)):=below_setRow p2 (Nat.le_refl _) _
 have HBW:=hid_ (ST9.out.next bel).below
 have HS3:=hid_ (aZp HE9.out.2.1 bel)
 have HS5:=hid_ (aZp HE9.out.1.1 bel)
 have HF6:=hid_ (aZp HE9.out.1.2 bel)
 have HEV:=hid_ (And.intro (HE9.out.2.2.below bel) (HT9.out.2.1.below bel))
 have HTT:=hid_ (And.intro (And.intro HT9.out.1.1 (Kd.C_below HT9.out.1.2 bel)) (And.intro HT9.out.2.2.1 (Kd.C_below HT9.out.2.2.2 bel)))
 have HFX:=hid_ q1
 clear p1 p2 q1 bel ST9 HE9 HT9
 generalize (W9.alloc (rdO 0 0)).setRow W9.heap.size (rdC cn ca)=W at HBW HS3 HS5 HF6 HEV HTT HFX ⊢
 generalize W9.heap.size=X9 at HFX ⊢
 have hnum:=eZD g
 rw [HER.out] at hnum
 have hev:=HEV.out
 rw [HER.out] at hev
 have HN:=hid_ (And.intro hnum hev)
 have hlen:=told_len g
 have hshort:=gZB g
 generalize toldR (aZY g)=tl at HTT hlen hshort ⊢
 have HSH:=hid_ (And.intro hlen hshort)
 clear hnum hev hlen hshort HEV
 have e39:=eq39
 simp only [Act.put]
 go_cut [57] (fun s wx=>s=.bool false∧Below W.heap.size W wx)
 case first =>
  refine dZP (n:=22) (S:=fun w'=>Below W.heap.size W w') (ds:=[]) (bm 22 0) (by kernel_rfl) rfl (by kernel_rfl) (Below.refl _ _).drew (fun hHeld=>?_)
  refine bZY prs.tab7 prs.bits7 (fun HT_ HW_=>?_)
  refine take_ (i:=0) (N:=some 36) (v:=?_) (a':=?_) (bm 22 1) rfl rfl (aZV HT_.out HW_.out (by kernel_rfl)) (fun _ _ _ h=>h) (Or.inl ⟨by rfl,?_⟩) hHeld ?_ ?_
  rotate_left
  ·
   intro w' hS'
   refine eZw (x:=.tmp 3) (g:=X4) (u:=.int .i64 most) (v:=.int .i64 steps) ?_ ?_ (aZp HS3.out hS')
   all_goals exact rfl
  rotate_left
  ·
   simp only [Act.put,List.setIfInBounds_toArray,List.set_cons_zero,List.set_cons_succ]
   rfl
  refine take_ (i:=1) (N:=some 37) (v:=?_) (a':=?_) (bm 22 3) rfl rfl (aZV HT_.out HW_.out (by kernel_rfl)) (fun _ _ _ h=>h) (Or.inl ⟨by rfl,?_⟩) hHeld ?_ ?_
  rotate_left
  ·
   intro w' hS'
   refine eZw (x:=.tmp 5) (g:=X5) (u:=.int .i64 most) (v:=.int .i64 steps) ?_ ?_ (aZp HS5.out hS')
   all_goals exact rfl
  rotate_left
  ·
   simp only [Act.put,List.setIfInBounds_toArray,List.set_cons_zero,List.set_cons_succ]
   rfl
  refine aZZ (i:=2) (N:=some 38) (v:=?_) (a':=?_) (bm 22 7) rfl rfl (aZF HT_.out (by kernel_rfl)) (fun _ _ _ h=>h) (Or.inl ⟨by rfl,?_⟩) ?_ ?_
  rotate_left
  ·
   intro w'
   go_simp
   with_reducible rfl
  rotate_left
  ·
   simp only [Act.put,List.setIfInBounds_toArray,List.set_cons_zero,List.set_cons_succ]
   rfl
  refine aZZ (i:=3) (N:=some 39) (v:=?_) (a':=?_) (bm 22 15) rfl rfl (aZF HT_.out (by kernel_rfl)) (fun _ _ _ h=>h) (Or.inl ⟨by rfl,?_⟩) ?_ ?_
  rotate_left
  ·
   intro w'
   go_simp
   with_reducible rfl
  rotate_left
  ·
   simp only [Act.put,List.setIfInBounds_toArray,List.set_cons_zero,List.set_cons_succ]
   rfl
  refine aZZ (i:=4) (N:=some 40) (v:=?_) (a':=?_) (bm 22 31) rfl rfl (aZF HT_.out (by kernel_rfl)) (fun _ _ _ h=>h) (Or.inl ⟨by rfl,?_⟩) ?_ ?_
  rotate_left
  ·
   intro w'
   go_simp
   with_reducible rfl
  rotate_left
  ·
   simp only [Act.put,List.setIfInBounds_toArray,List.set_cons_zero,List.set_cons_succ]
   rfl
  refine take_ (i:=6) (N:=some 42) (v:=?_) (a':=?_) (bm 22 95) rfl rfl (aZV HT_.out HW_.out (by kernel_rfl)) (fun _ _ _ h=>h) (Or.inl ⟨by rfl,?_⟩) hHeld ?_ ?_
  rotate_left
  ·
   intro w' hS'
   refine cZM (x:=.tmp 6) (g:=X6) (n:=cn) (i:=ca) ?_ ?_ (aZp HF6.out hS')
   all_goals exact rfl
  rotate_left
  ·
   simp only [Act.put,List.setIfInBounds_toArray,List.set_cons_zero,List.set_cons_succ]
   rfl
  refine one_ (i:=5) (N:=some 41) (bm 22 127) rfl rfl (bZt HT_.out (by kernel_rfl)) (by decide) (fun K hK=>?_)
  go_simp
  go_at_call 16
  (with_reducible refine (show Calls _ _ _ _ _ from gZg er ev _ (HN.out.2.1.below hHeld) HN.out.1).mono ?_)
  rintro e w1 ⟨rfl,bel1⟩
  rw [HC.out.1,HC.out.2]
  refine hK.out _ _ (hHeld.trans (bel1.mono hHeld.size)) (fun hHeld=>?_)
  clear hK K
  refine aZZ (i:=7) (N:=some 43) (v:=?_) (a':=?_) (bm 22 255) rfl rfl (aZF HT_.out (by kernel_rfl)) (fun _ _ _ h=>h) (Or.inl ⟨by rfl,?_⟩) ?_ ?_
  rotate_left
  ·
   intro w'
   go_simp
   with_reducible rfl
  rotate_left
  ·
   simp only [Act.put,List.setIfInBounds_toArray,List.set_cons_zero,List.set_cons_succ]
   rfl
  refine aZZ (i:=8) (N:=some 44) (v:=?_) (a':=?_) (bm 22 511) rfl rfl (aZF HT_.out (by kernel_rfl)) (fun _ _ _ h=>h) (Or.inl ⟨by rfl,?_⟩) ?_ ?_
  rotate_left
  ·
   intro w'
   go_simp
   with_reducible rfl
  rotate_left
  ·
   simp only [Act.put,List.setIfInBounds_toArray,List.set_cons_zero,List.set_cons_succ]
   rfl
  refine aZZ (i:=9) (N:=some 45) (v:=?_) (a':=?_) (bm 22 1023) rfl rfl (aZF HT_.out (by kernel_rfl)) (fun _ _ _ h=>h) (Or.inl ⟨by rfl,?_⟩) ?_ ?_
  rotate_left
  ·
   intro w'
   go_simp
   with_reducible rfl
  rotate_left
  ·
   simp only [Act.put,List.setIfInBounds_toArray,List.set_cons_zero,List.set_cons_succ]
   rfl
  refine aZZ (i:=10) (N:=some 46) (v:=?_) (a':=?_) (bm 22 2047) rfl rfl (aZF HT_.out (by kernel_rfl)) (fun _ _ _ h=>h) (Or.inl ⟨by rfl,?_⟩) ?_ ?_
  rotate_left
  ·
   intro w'
   go_simp
   with_reducible rfl
  rotate_left
  ·
   simp only [Act.put,List.setIfInBounds_toArray,List.set_cons_zero,List.set_cons_succ]
   rfl
  refine take_ (i:=12) (N:=some 48) (v:=?_) (a':=?_) (bm 22 6143) rfl rfl (aZV HT_.out HW_.out (by kernel_rfl)) (fun _ _ _ h=>h) (Or.inl ⟨by rfl,?_⟩) hHeld ?_ ?_
  rotate_left
  ·
   intro w' hS'
   refine cZM (x:=.tmp 10) (g:=X9) (n:=cn) (i:=ca) ?_ ?_ (aZp HFX.out hS')
   all_goals exact rfl
  rotate_left
  ·
   simp only [Act.put,List.setIfInBounds_toArray,List.set_cons_zero,List.set_cons_succ]
   rfl
  refine one_ (i:=11) (N:=some 47) (bm 22 8191) rfl rfl (bZt HT_.out (by kernel_rfl)) (by decide) (fun K hK=>?_)
  go_simp
  go_at_call 16
  (with_reducible refine (show Calls _ _ _ _ _ from gZg er ev2 _ (HN.out.2.2.below hHeld) HN.out.1).mono ?_)
  rintro e w1 ⟨rfl,bel1⟩
  rw [HC.out.1,HC.out.2]
  refine hK.out _ _ (hHeld.trans (bel1.mono hHeld.size)) (fun hHeld=>?_)
  clear hK K
  refine aZZ (i:=13) (N:=some 49) (v:=?_) (a':=?_) (bm 22 16383) rfl rfl (aZF HT_.out (by kernel_rfl)) (fun _ _ _ h=>h) (Or.inl ⟨by rfl,?_⟩) ?_ ?_
  rotate_left
  ·
   intro w'
   go_simp
   with_reducible rfl
  rotate_left
  ·
   simp only [Act.put,List.setIfInBounds_toArray,List.set_cons_zero,List.set_cons_succ]
   rfl
  refine aZZ (i:=14) (N:=some 50) (v:=?_) (a':=?_) (bm 22 32767) rfl rfl (aZF HT_.out (by kernel_rfl)) (fun _ _ _ h=>h) (Or.inl ⟨by rfl,?_⟩) ?_ ?_
  rotate_left
  ·
   intro w'
   go_simp
   with_reducible rfl
  rotate_left
  ·
   simp only [Act.put,List.setIfInBounds_toArray,List.set_cons_zero,List.set_cons_succ]
   rfl
  refine aZZ (i:=15) (N:=some 51) (v:=?_) (a':=?_) (bm 22 65535) rfl rfl (aZF HT_.out (by kernel_rfl)) (fun _ _ _ h=>h) (Or.inl ⟨by rfl,?_⟩) ?_ ?_
  rotate_left
  ·
   intro w'
   go_simp
   with_reducible rfl
  rotate_left
  ·
   simp only [Act.put,List.setIfInBounds_toArray,List.set_cons_zero,List.set_cons_succ]
   rfl
  refine aZZ (i:=16) (N:=some 52) (v:=?_) (a':=?_) (bm 22 131071) rfl rfl (aZF HT_.out (by kernel_rfl)) (fun _ _ _ h=>h) (Or.inl ⟨by rfl,?_⟩) ?_ ?_
  rotate_left
  ·
   intro w'
   go_simp
   with_reducible rfl
  rotate_left
  ·
   simp only [Act.put,List.setIfInBounds_toArray,List.set_cons_zero,List.set_cons_succ]
   rfl
  refine aZZ (i:=17) (N:=some 53) (v:=?_) (a':=?_) (bm 22 262143) rfl rfl (aZF HT_.out (by kernel_rfl)) (fun _ _ _ h=>h) (Or.inl ⟨by rfl,?_⟩) ?_ ?_
  rotate_left
  ·
   intro w'
   go_simp
   with_reducible rfl
  rotate_left
  ·
   simp only [Act.put,List.setIfInBounds_toArray,List.set_cons_zero,List.set_cons_succ]
   rfl
  refine aZZ (i:=18) (N:=some 54) (v:=?_) (a':=?_) (bm 22 524287) rfl rfl (aZF HT_.out (by kernel_rfl)) (fun _ _ _ h=>h) (Or.inl ⟨by rfl,?_⟩) ?_ ?_
  rotate_left
  ·
   intro w'
   go_simp
   with_reducible rfl
  rotate_left
  ·
   simp only [Act.put,List.setIfInBounds_toArray,List.set_cons_zero,List.set_cons_succ]
   rfl
  refine aZZ (i:=19) (N:=some 55) (v:=?_) (a':=?_) (bm 22 1048575) rfl rfl (aZF HT_.out (by kernel_rfl)) (fun _ _ _ h=>h) (Or.inl ⟨by rfl,?_⟩) ?_ ?_
  rotate_left
  ·
   intro w'
   go_simp
   with_reducible rfl
  rotate_left
  ·
   simp only [Act.put,List.setIfInBounds_toArray,List.set_cons_zero,List.set_cons_succ]
   rfl
  refine aZZ (i:=20) (N:=some 56) (v:=?_) (a':=?_) (bm 22 2097151) rfl rfl (aZF HT_.out (by kernel_rfl)) (fun _ _ _ h=>h) (Or.inl ⟨by rfl,?_⟩) ?_ ?_
  rotate_left
  ·
   intro w'
   go_simp
   with_reducible rfl
  rotate_left
  ·
   simp only [Act.put,List.setIfInBounds_toArray,List.set_cons_zero,List.set_cons_succ]
   rfl
  refine aZZ (i:=21) (N:=some 57) (v:=?_) (a':=?_) (bm 22 4194303) rfl rfl (aZF HT_.out (by kernel_rfl)) (fun _ _ _ h=>h) (Or.inl ⟨by rfl,?_⟩) ?_ ?_
  rotate_left
  ·
   intro w'
   go_simp
   with_reducible rfl
  rotate_left
  ·
   simp only [Act.put,List.setIfInBounds_toArray,List.set_cons_zero,List.set_cons_succ]
   rfl
  refine fZ2 (cZ1 HT_.out (by kernel_rfl)) ?_
  go_wp2_with (fail)
  go_meet
  exact ⟨rfl,hHeld⟩
 case rest =>
  obtain ⟨rfl,hbw⟩:=hcut
  obtain ⟨V,hV⟩:∃ V,V=wc:=⟨_,rfl⟩
  subst hV
  have HTV:=hid_ (And.intro (And.intro HTT.out.1.1 (Kd.C_below HTT.out.1.2 hbw)) (And.intro HTT.out.2.1 (Kd.C_below HTT.out.2.2 hbw)))
  have HBV:=hid_ (HBW.out.trans (hbw.mono HBW.out.size))
  clear hbw HTT HBW HS3 HS5 HF6 HFX HN e39
  go_wp2_with (fail)
  go_loopw [11] (fun s11 wr=>∃ j:Nat,s11=.int .i64 j∧j≤tl.length∧Below V.heap.size V wr) (fun s11 _=>tl.length - (intOf s11).toNat)
  case atStart=>exact ⟨0,rfl,Nat.zero_le _,Below.refl _ _⟩
  case round =>
   obtain ⟨j,rfl,hj,hbw⟩:=hrel
   have hl9:=HSH.out.1
   by_cases hlt:j<tl.length
   ·
    obtain ⟨ad,had,B1,d1,k0,k1,k2⟩:=row_at (Kd.C_below HTV.out.1.2 hbw) j hlt
    obtain ⟨ar,har,B2,d2,k3,k4,k5⟩:=row_at (Kd.C_below HTV.out.2.2 hbw) j hlt
    subst had
    subst har
    have hsh:(tl.getD j []).length≤100000:=HSH.out.2 _ (by rw [List.getD_eq_getElem?_getD,List.getElem?_eq_getElem hlt];exact List.getElem_mem hlt)
    generalize tl.getD j []=lj at k0 k1 k2 k3 k4 k5 hsh
    have hcall:∀ W',Below wr.heap.size wr W'→Calls Try.prog 17 #[.slice B1 lj.length d1,.slice B2 lj.length d2] W' fun e w'=>e=.returned (.bool true)∧Below wr.heap.size wr w':=fun W' hb =>
     (eZL W' B1 B2 d1 d2 lj hsh (Kd.C_below k2 hb) k1 (Kd.C_below k5 hb) k4).mono (fun e w' h=>⟨h.1,hb.trans ((Drawn0.below_ h.2).mono hb.size)⟩)
    have hSof:∀ W',Below wr.heap.size wr W'→(W'.cell? (ad.add j)=some (.slice B1 lj.length d1)∧W'.cell? (ar.add j)=some (.slice B2 lj.length d2)∧Below wr.heap.size wr W'):=fun W' hb=>⟨cZq hb k0,cZq hb k3,hb⟩
    have HSOF:=hid_ hSof
    have HCALL:=hid_ hcall
    have HBB:=hid_ hbw
    have i0:(0:Int)≤(j:Int):=by omega
    have i1:(j:Int)<(tl.length:Int):=by omega
    have hm1:tl.length - (intOf (.int .i64 ((j:Int)+1))).toNat<tl.length - (intOf (.int .i64 (j:Int))).toNat:=by simp [intOf];omega
    clear hcall hSof hbw k1 k2 k4 k5 hsh
    go_upto_region 12 with (fail)
    go_region_held3 (fun w'=>w'.cell? (ad.add j)=some (.slice B1 lj.length d1)∧w'.cell? (ar.add j)=some (.slice B2 lj.length d2)∧Below wr.heap.size wr w') (first|assumption|exact HSOF.out _ (Below.refl _ _).drew) ((go_at_call 17;(with_reducible refine (HCALL.out _ (And.right (And.right (by assumption)))).mono ?_);rintro e w1' ⟨rfl,bel1⟩;have hS1:=HSOF.out _ bel1))
    go_wp2_with (fail)
    go_roundw
    case rel=>exact ⟨j+1,by go_num,hlt,HBB.out.trans (bel1.mono HBB.out.size)⟩
    case measure=>exact hm1
   ·
    have hge:¬(j:Int)<(tl.length:Int):=by omega
    have HBB:=hid_ hbw
    clear hbw hlt
    go_wp2_with (fail)
    go_ret
    exact ⟨rfl,HBV.out.trans (HBB.out.mono HBV.out.size)⟩
noncomputable def berthlaw21_AuditPrograms.f (T:List ByteArray) (N:List Int) (S:List (List ByteArray)) (M:List (List Int)) (C:List S66) (d l:Int):Option Bool:=@ite _ (FitsB ⟨T,N,S,M,C,d,l⟩) (Classical.propDecidable _) (some true) none
theorem berthlaw21_AuditPrograms.calls (A0:Option Addr) (c0:Nat) (T:List ByteArray) (A1:Option Addr) (c1:Nat) (N:List Int) (A2:Option Addr) (c2:Nat) (S:List (List ByteArray)) (A3:Option Addr) (c3:Nat) (M:List (List Int)) (A4:Option Addr) (c4:Nat) (C:List S66) (d l:Int) (r:Bool) (w:World)
 (hT:Kd.C Kd.string w A0 T.length T) (lT:T.length≤c0) (hN:Kd.C (Kd.int .i64) w A1 N.length N) (lN:N.length≤c1) (hS:Kd.C (Kd.slice 9 Kd.string) w A2 S.length S) (lS:S.length≤c2) (hM:Kd.C (Kd.slice 3 (Kd.int .i64)) w A3 M.length M) (lM:M.length≤c3) (hC:Kd.C k66 w A4 C.length C) (lC:C.length≤c4)
 (h:berthlaw21_AuditPrograms.f T N S M C d l=some r) :
 Calls Try.prog 3 #[.agg #[.slice A0 T.length c0,.slice A1 N.length c1,.slice A2 S.length c2,.slice A3 M.length c3,.slice A4 C.length c4,.int .i64 d,.int .i64 l]] w fun e w'=>e=.returned (.bool r)∧Below w.heap.size w w':=by
 unfold berthlaw21_AuditPrograms.f at h
 split at h
 ·
  next f =>
  obtain rfl:=Option.some.inj h
  exact fZe w A0 A1 A2 A3 A4 c0 c1 c2 c3 c4 ⟨T,N,S,M,C,d,l⟩ ⟨hT,hN,hS,hM,hC,lT,lN,lS,lM,lC⟩ f
 · cases h
end Go.Proofs.Ytbnplhmmbnmagaa.D
