/- The document's audit: Program and Stacks over its walk. -/
import Derived.Test.YtbnplhmmbnmagaazAMm21
import Derived.Test.YtbnplhmmbnmagaazAMm19
import Derived.Test.YtbnplhmmbnmagaazAMm2
import Derived.Test.YtbnplhmmbnmagaazAMm16
set_option maxHeartbeats 4000000
set_option maxRecDepth 100000
set_option linter.all false
namespace Go.Proofs.Ytbnplhmmbnmagaa.D
open Go.RowKit Go.Proofs.YtbnplhmmbnmagaaW.PrintWords Go.Proofs.YtbnplhmmbnmagaaW.PrintLast Go.Proofs.YtbnplhmmbnmagaaW.PrintMore Go.Proofs.Ytbnplhmmbnmagaa.All
def prg.T3:Bool × List (List Nat × List Nat):=(true,[([],[]),([],[]),([0,0],[0]),([1,2,0,1,2],[1])])
def prg.B3:List Nat:=[0,0,1,7]
theorem prg.tab3:rtab .any (cZt Try.f13 3)=prg.T3:=by kernel_rfl
theorem prg.bits3:bZy prg.T3.2 prg.B3=true:=by kernel_rfl
def stx.T3:Bool × List (List Nat × List Nat):=(true,[([],[]),([],[]),([0,1,0,1],[0])])
def stx.B3:List Nat:=[0,0,3]
theorem stx.tab3:rtab .any (cZt Try.f15 3)=stx.T3:=by kernel_rfl
theorem stx.bits3:bZy stx.T3.2 stx.B3=true:=by kernel_rfl
theorem bZF {o:Oper} {a:Act} {w:World} {x:Operand} {g:Nat} {n i:Int} (ho:o.op=.load 41 x) (hx:a.eval x=.pointer (some ⟨g,0,none⟩)) (hg:w.heap[g]?=some (rdO n i)):(execOp a.eval o).run Try.prog w=.ok (.value (rdV n i)) w:=by
  unfold execOp
  simp only [ho,hx,Instr.loadAt,Instr.sureAddr,Sem.run_bind,Sem.run_pure,Result.andThen_ok,run_loadVar_row (P:=Try.prog) w g 41 41 (rdC n i) (0,0) _ hg Try.underlying41 rfl (by kernel_rfl)]
theorem cZR (W:World) (Z:Nat) (a b:Value) (k:Nat) (hk:k≠Z):((W.setCell ⟨Z,0,none⟩ a).setCell ⟨Z,1,none⟩ b).heap[k]?=W.heap[k]?:=by
  rw [Below.heap_setCell _ _ _ _ (by simpa using hk),Below.heap_setCell _ _ _ _ (by simpa using hk)]
theorem results13 (tmps:Array Value) (w:World) (P Q:Nat) (a b:Value) (n i:Int) (h2:tmps.getD 2 undef=.pointer (some ⟨P,0,none⟩)) (h3:tmps.getD 3 undef=.pointer (some ⟨Q,0,none⟩)) (hP:w.heap[P]?=some (.cells #[a,b] 31 (0,0))) (hQ:w.heap[Q]?=some (rdO n i)) :
    (results Try.f13 tmps).run Try.prog w=.ok (.tuple #[.agg #[a,b],rdV n i]) w:=by
  have hl:=run_loadVar_row (P:=Try.prog) w P 31 31 #[a,b] (0,0) _ hP Try.underlying31 rfl (by kernel_rfl)
  have hl2:=run_loadVar_row (P:=Try.prog) w Q 41 41 _ (0,0) _ hQ Try.underlying41 rfl (by kernel_rfl)
  have h2':tmps[2]?.getD undef=.pointer (some ⟨P,0,none⟩):=by simpa using h2
  have h3':tmps[3]?.getD undef=.pointer (some ⟨Q,0,none⟩):=by simpa using h3
  simp [results,Try.results13,h2',h3',asAddr,hl,hl2]
theorem results15 (tmps:Array Value) (w:World) (Q:Nat) (v:Value) (n i:Int) (h2:tmps.getD 2 undef=v) (h3:tmps.getD 3 undef=.pointer (some ⟨Q,0,none⟩)) (hQ:w.heap[Q]?=some (rdO n i)) :
    (results Try.f15 tmps).run Try.prog w=.ok (.tuple #[v,rdV n i]) w:=by
  have hl2:=run_loadVar_row (P:=Try.prog) w Q 41 41 _ (0,0) _ hQ Try.underlying41 rfl (by kernel_rfl)
  have h2':tmps[2]?.getD undef=v:=by simpa using h2
  have h3':tmps[3]?.getD undef=.pointer (some ⟨Q,0,none⟩):=by simpa using h3
  simp [results,Try.results15,h2',h3',asAddr,hl2]
abbrev kStk:Kd (List Int):=Kd.slice 3 (Kd.int .i64)
def StksEnd (w:World) (r:Except (Int × Int) (List Pr)) (e:Ending) (w':World):Prop :=
  Below w.heap.size w w' ∧
  match r with
  | .error (i,n)=>e=.returned (.tuple #[.slice none 0 0,rdV n i])
  | .ok l=>∃ v,e=.returned (.tuple #[v,rdV 0 0])∧kStk.R 23 w' w.heap.size (fun _=>True) v (l.map Prod.fst)
theorem stks_err (w:World) (A0 A1 A2 A3 A4:Option Addr) (c0 c1 c2 c3 c4:Nat) (g:Pg) (hI:InPg w A0 A1 A2 A3 A4 c0 c1 c2 c3 c4 g) {i n:Int} (hn:n≠0) (hr:bZ1 g=.error (i,n))
 (hW:∀ W,InPg W A0 A1 A2 A3 A4 c0 c1 c2 c3 c4 g→Calls Try.prog 31 #[aZ6 A0 A1 A2 A3 A4 c0 c1 c2 c3 c4 g] W (dZc W (bZ1 g))) :
 Calls Try.prog 15 #[aZ6 A0 A1 A2 A3 A4 c0 c1 c2 c3 c4 g] w (StksEnd w (bZ1 g)):=by
 obtain ⟨p0,p1,p2⟩:=aZ5 w (.cells #[.slice A0 g.T.length c0,.slice A1 g.N.length c1,.slice A2 g.S.length c2,.slice A3 g.M.length c3,.slice A4 g.C.length c4,.int .i64 g.dep,.int .i64 g.loc] 28) (rdO 0 0)
 have hST:StL w ((w.alloc (.cells #[.slice A0 g.T.length c0,.slice A1 g.N.length c1,.slice A2 g.S.length c2,.slice A3 g.M.length c3,.slice A4 g.C.length c4,.int .i64 g.dep,.int .i64 g.loc] 28)).alloc (rdO 0 0)) w.heap.size A0 A1 A2 A3 A4 c0 c1 c2 c3 c4 g:=⟨p2,p0,hI.below p2⟩
 have HW:=hid_ hW
 clear p0 p2 hI hW
 unfold aZ6
 go_enter Try.func15,Try.ntmps15
 go_upto_region 1 with (fail)
 generalize (w.alloc (.cells #[.slice A0 g.T.length c0,.slice A1 g.N.length c1,.slice A2 g.S.length c2,.slice A3 g.M.length c3,.slice A4 g.C.length c4,.int .i64 g.dep,.int .i64 g.loc] 28)).alloc (rdO 0 0)=W1 at hST p1 ⊢
 obtain ⟨x0,x1,x2,x3,x4,x5,x6⟩:=aZm hST.box
 have HST:=hid_ hST
 have HF:=hid_ p1
 clear p1 hST
 go_wp2_with (fail)
 clear x0 x1 x2 x3 x4 x5 x6
 refine (show Calls _ _ _ _ _ from HW.out W1 HST.out.pg).mono ?_
 rw [hr]
 rintro e W2 ⟨bel,he⟩
 obtain rfl:=he
 have e0:(n == 0)=false:=by rw [beq_eq_false_iff_ne];exact hn
 have hF2:=aZc HF.out bel
 have hA:=heap_alloc_new W2 (rdO 0 0)
 have hb2:=aZa (Below.refl W2.heap.size W2) (rdO 0 0)
 go_upto_region 2 with ((with_reducible refine aZD (t:=41) (p:=5) rfl ?_);refine wpList_store_row rfl 41 (.tmp 5) (.tmp 12) rfl W2.heap.size (rdC n i) rfl rfl 41 (rdC 0 0) hA (bZe n i) (bZg 0 0 n i) (bZ5 n i) ?_)
 have hB5:=setRow_heap _ _ _ (rdC n i) _ _ hA
 have hb3:Below W2.heap.size W2 ((W2.alloc (rdO 0 0)).setRow W2.heap.size (rdC n i)):=below_setRow hb2 (Nat.le_refl _) _
 have hF3:=aZc hF2 hb3
 have hbw:=HST.out.below.trans ((bel.trans (hb3.mono bel.size)).mono HST.out.below.size)
 clear hA hb2 hF2 bel HST HF HW hb3
 generalize (W2.alloc (rdO 0 0)).setRow W2.heap.size (rdC n i)=W at hB5 hF3 hbw ⊢
 generalize W2.heap.size=b5 at hB5 ⊢
 have y0:W.cell? ⟨b5,0,none⟩=some (.int .i64 n):=by simp [World.cell?,hB5]
 have HB5:=hid_ hB5
 have HBF:=hid_ hF3
 have HBW:=hid_ hbw
 have HHR:=hid_ hr
 clear hB5 hF3 hbw hr hn
 go_upto_region 3 with (fail)
 clear y0 e0
 go_cut [2] (fun s2 wx=>s2=.slice none 0 0∧wx=W.drew.setRow (w.heap.size+1) (rdC n i))
 case first =>
  refine cZ0 (n:=3) (S:=fun w'=>(w'.heap[b5]?=some (rdO n i)∧w'.heap[w.heap.size+1]?=some (rdO 0 0))) (ds:=[2]) (bm 3 0) (by kernel_rfl) rfl (by kernel_rfl) ⟨HB5.out,HBF.out⟩ (fun hHeld=>?_)
  refine bZa stx.tab3 stx.bits3 (fun HT_ HW_=>?_)
  refine aZC (i:=1) (N:=some 2) (v:=?_) (a':=?_) (bm 3 2) rfl rfl (aZl HT_.out (by kernel_rfl)) (fun _ _ _ h=>h) (Or.inl ⟨by rfl,?_⟩) ?_ ?_;rotate_left;(intro w';go_simp;with_reducible rfl);rotate_left;(simp only [Act.put,sZa,sZb,sZc];rfl)
  refine take_ (i:=0) (N:=some 16) (v:=?_) (a':=?_) (bm 3 3) rfl rfl (aZz HT_.out HW_.out (by kernel_rfl)) (fun _ _ _ h=>h) (Or.inl ⟨by rfl,?_⟩) hHeld ?_ ?_
  rotate_left
  ·
   intro w' hS'
   refine bZF (x:=.tmp 5) (g:=b5) (n:=n) (i:=i) ?h1 ?h2 ?h3
   case h3=>exact hS'.1
   case h1=>exact rfl
   exact rfl
  rotate_left
  ·
   simp only [Act.put,sZa,sZb,sZc]
   rfl
  refine gZp (i:=2) (N:=none) (bm 3 7) rfl rfl (aZU HT_.out (by kernel_rfl)) (by decide) (fun K hK=>?_)
  rw [if_pos (by rfl)]
  refine wp_store_row 41 (.tmp 3) (.tmp 16) rfl (w.heap.size+1) (rdC n i) rfl rfl 41 (rdC 0 0) hHeld.2 (bZe n i) (bZg 0 0 n i) (bZ5 n i) ?_
  refine hK.out _ _ ?_
  clear hK K
  refine eZl (bZ8 HT_.out (by kernel_rfl)) ?_
  go_wp2_with (fail)
  go_meet
  exact ⟨rfl,rfl⟩
 case rest =>
  obtain ⟨rfl,rfl⟩:=hcut
  go_wp2_with (fail)
  refine bodyPost_ret (results15 _ _ (w.heap.size+1) (.slice none 0 0) n i ?_ ?_ (setRow_heap W.drew _ _ _ _ _ HBF.out)) ?_ ?_
  · kernel_rfl
  · kernel_rfl
  · kernel_rfl
  ·
   rw [HHR.out]
   exact ⟨below_setRow HBW.out.drew (by omega) _,rfl⟩
theorem fZb (l:List Pr) (j:Nat) (h:j<l.length):l.take (j+1)=l.take j++[l.getD j ([],[])]:=by
  rw [List.getD_eq_getElem?_getD,List.getElem?_eq_getElem h]
  exact (List.take_append_getElem h).symm
theorem hZT {W:World} {base F:Nat} {ok:Nat→Prop} {v:Value} {l:List (List Int)} {cs:Array Value} (h:kStk.R 23 W base ok v l) (hF:W.heap[F]?=some (rdO 0 0)):kStk.R 23 (W.setRow F cs) base (fun _=>True) v l :=
  Kd.R_mono (Kd.R_step (Kd.R_types h hF (by decide)) (fun k hk _=>aZk W F cs k hk.2)) (fun _ _=>trivial)
theorem stks_ok (w:World) (A0 A1 A2 A3 A4:Option Addr) (c0 c1 c2 c3 c4:Nat) (g:Pg) (hI:InPg w A0 A1 A2 A3 A4 c0 c1 c2 c3 c4 g) {l:List Pr} (hr:bZ1 g=.ok l) (hll:l.length≤40000)
 (hW:∀ W,InPg W A0 A1 A2 A3 A4 c0 c1 c2 c3 c4 g→Calls Try.prog 31 #[aZ6 A0 A1 A2 A3 A4 c0 c1 c2 c3 c4 g] W (dZc W (bZ1 g))) :
 Calls Try.prog 15 #[aZ6 A0 A1 A2 A3 A4 c0 c1 c2 c3 c4 g] w (StksEnd w (bZ1 g)):=by
 obtain ⟨p0,p1,p2⟩:=aZ5 w (.cells #[.slice A0 g.T.length c0,.slice A1 g.N.length c1,.slice A2 g.S.length c2,.slice A3 g.M.length c3,.slice A4 g.C.length c4,.int .i64 g.dep,.int .i64 g.loc] 28) (rdO 0 0)
 have hST:StL w ((w.alloc (.cells #[.slice A0 g.T.length c0,.slice A1 g.N.length c1,.slice A2 g.S.length c2,.slice A3 g.M.length c3,.slice A4 g.C.length c4,.int .i64 g.dep,.int .i64 g.loc] 28)).alloc (rdO 0 0)) w.heap.size A0 A1 A2 A3 A4 c0 c1 c2 c3 c4 g:=⟨p2,p0,hI.below p2⟩
 have HW:=hid_ hW
 clear p0 p2 hI hW
 unfold aZ6
 go_enter Try.func15,Try.ntmps15
 go_upto_region 1 with (fail)
 generalize (w.alloc (.cells #[.slice A0 g.T.length c0,.slice A1 g.N.length c1,.slice A2 g.S.length c2,.slice A3 g.M.length c3,.slice A4 g.C.length c4,.int .i64 g.dep,.int .i64 g.loc] 28)).alloc (rdO 0 0)=W1 at hST p1 ⊢
 obtain ⟨x0,x1,x2,x3,x4,x5,x6⟩:=aZm hST.box
 have HST:=hid_ hST
 have HF:=hid_ p1
 clear p1 hST
 go_wp2_with (fail)
 clear x0 x1 x2 x3 x4 x5 x6
 refine (show Calls _ _ _ _ _ from HW.out W1 HST.out.pg).mono ?_
 rw [hr]
 rintro e W2 ⟨bel,he⟩
 obtain ⟨v,rfl,hv⟩:=he
 have hF2:=aZc HF.out bel
 have hA:=heap_alloc_new W2 (rdO 0 0)
 have hb2:=aZa (Below.refl W2.heap.size W2) (rdO 0 0)
 go_upto_region 2 with ((with_reducible refine aZD (t:=41) (p:=5) rfl ?_);refine wpList_store_row rfl 41 (.tmp 5) (.tmp 12) rfl W2.heap.size (rdC 0 0) rfl rfl 41 (rdC 0 0) hA (bZe 0 0) (bZg 0 0 0 0) (bZ5 0 0) ?_)
 have hB5:=setRow_heap _ _ _ (rdC 0 0) _ _ hA
 have hb3:Below W2.heap.size W2 ((W2.alloc (rdO 0 0)).setRow W2.heap.size (rdC 0 0)):=below_setRow hb2 (Nat.le_refl _) _
 have hF3:=aZc hF2 hb3
 have hbw:=HST.out.below.trans ((bel.trans (hb3.mono bel.size)).mono HST.out.below.size)
 have hv3:=Kd.R_lower (Kd.R_below hv hb3) HST.out.below.size
 clear hA hb2 hF2 bel HST HF HW hb3 hv
 generalize (W2.alloc (rdO 0 0)).setRow W2.heap.size (rdC 0 0)=W at hB5 hF3 hbw hv3 ⊢
 generalize W2.heap.size=b5 at hB5 ⊢
 obtain ⟨Av,cv,rfl⟩:=Kd.R_slice hv3
 have y0:W.cell? ⟨b5,0,none⟩=some (.int .i64 0):=by simp [World.cell?,hB5]
 have HV:=hid_ (And.intro hv3 (And.intro hF3 hbw))
 have HHR:=hid_ hr
 clear hB5 hF3 hbw hr hv3
 go_wp2_with (fail)
 clear y0
 go_loopw [6,7] (fun s6 s7 wr=>∃ j:Nat,s7=.int .i64 j∧j≤l.length∧kStk.R 23 wr w.heap.size (fun _=>True) s6 ((l.take j).map Prod.fst)∧kSt.R 94 wr w.heap.size (fun _=>True) (.slice Av l.length cv) l∧wr.heap[w.heap.size+1]?=some (rdO 0 0)∧Below w.heap.size w wr) (fun _ s7 _=>l.length - (intOf s7).toNat)
 case atStart=>exact ⟨0,rfl,Nat.zero_le _,Kd.R_nil _ _ _ _ _,HV.out.1,HV.out.2.1,HV.out.2.2⟩
 case round =>
  obtain ⟨j,rfl,hj,ho,hv,hF,hbw⟩:=hrel
  by_cases hlt:j<l.length
  ·
   obtain ⟨ad,c,B1,d1,B2,d2,hve,k0,-,r1,-⟩:=hZt (I:=fun _=>False) hv (fun _ _ h=>h) j hlt
   simp only [Value.slice.injEq] at hve
   obtain ⟨rfl,-,rfl⟩:=hve
   have i0:(0:Int)≤(j:Int):=by omega
   have i1:(j:Int)<(l.length:Int):=by omega
   have hM:kStk.M wr w.heap.size (fun k=>True∧some k≠u6.ownBlock) (l.getD j ([],[])).1 [.slice B1 (l.getD j ([],[])).1.length d1]:=⟨_,rfl,Kd.R_mono (Kd.R_apart' r1 (Kd.R_typed ho) (by decide)) (fun _ hk=>⟨trivial,hk.2⟩)⟩
   have hlen:(((l.take j).map Prod.fst).length+1)*24≤140737488355328:=by rw [List.length_map,List.length_take];omega
   have HH:=hid_ (And.intro ho (And.intro hv (And.intro hF (And.intro hbw hM))))
   clear ho hv hF hbw hM r1
   generalize hp:(l.getD j ([],[])).1=p at k0 HH
   have HP:=hid_ hp
   clear hp
   go_wp2_with ((with_reducible refine aZh (b:=.append) (xs:=#[.tmp 23,.tmp 29]) rfl ?_);at_builtin;refine Kd.R_append kStk (w0:=wr) w.heap.size rfl (.tmp 23) (.tmp 29) 25 23 (.slice none 0 0) 24 rfl Try.underlying25 info23_ rfl (by decide) (by omega) u6 ((l.take j).map Prod.fst) p [.slice B1 p.length d1] (fun _=>True) _ rfl rfl HH.out.2.2.2.2 (fun _ hk=>hk) (fun _ _=>trivial) HH.out.1 (Below.refl _ _) HH.out.2.2.2.1.size hlen ?_;intro v2 w2 hr2 hbb2 hg2 _)
   have h1:=Kd.R_over' HH.out.2.1 (Kd.R_typed HH.out.1) (by decide) hg2
   have h2:=(hg2.block _ (aZd HH.out.2.2.1) (Kd.R_ne HH.out.1 HH.out.2.2.1 (by decide))).trans HH.out.2.2.1
   have h3:kStk.R 23 w2 w.heap.size (fun _=>True) v2 ((l.take (j+1)).map Prod.fst):=by
    rw [fZb l j hlt,List.map_append,List.map_singleton,HP.out]
    exact hr2
   have h4:=HH.out.2.2.2.1.trans hbb2
   clear hr2 hbb2 hg2 hlen
   go_roundw
   case rel=>exact ⟨j+1,by go_num,hlt,h3,h1,h2,h4⟩
   case measure=>simp [intOf];omega
  ·
   have hje:j=l.length:=by omega
   have hge:¬(j:Int)<(l.length:Int):=by omega
   rw [hje,List.take_length] at ho
   have HH:=hid_ (And.intro ho (And.intro hF hbw))
   clear ho hv hF hbw hje hlt
   go_wp2_with ((with_reducible refine aZD (t:=41) (p:=3) rfl ?_);refine wpList_store_row rfl 41 (.tmp 3) (.tmp 32) rfl (w.heap.size+1) (rdC 0 0) rfl rfl 41 (rdC 0 0) HH.out.2.1 (bZe 0 0) (bZg 0 0 0 0) (bZ5 0 0) ?_)
   refine bodyPost_ret (results15 _ _ (w.heap.size+1) u6 0 0 ?_ ?_ (setRow_heap _ _ _ _ _ _ HH.out.2.1)) ?_ ?_
   · kernel_rfl
   · kernel_rfl
   · kernel_rfl
   ·
    rw [HHR.out]
    exact ⟨below_setRow HH.out.2.2 (by omega) _,u6,rfl,hZT HH.out.1 HH.out.2.1⟩
def PrgEnd (w:World) (n0:Nat) (r:Except (Int × Int) (List Pr)) (e:Ending) (w':World):Prop :=
  Below w.heap.size w w' ∧
  match r with
  | .error (i,n)=>e=.returned (.tuple #[.agg #[.int .i64 0,.int .i64 0],rdV n i])
  | .ok l=>e=.returned (.tuple #[.agg #[.int .i64 (dZQ l),.int .i64 n0],rdV 0 0])
theorem prg_err (w:World) (A0 A1 A2 A3 A4:Option Addr) (c0 c1 c2 c3 c4:Nat) (g:Pg) (hI:InPg w A0 A1 A2 A3 A4 c0 c1 c2 c3 c4 g) {i n:Int} (hn:n≠0) (hr:bZ1 g=.error (i,n))
 (hW:∀ W,InPg W A0 A1 A2 A3 A4 c0 c1 c2 c3 c4 g→Calls Try.prog 31 #[aZ6 A0 A1 A2 A3 A4 c0 c1 c2 c3 c4 g] W (dZc W (bZ1 g))) :
 Calls Try.prog 13 #[aZ6 A0 A1 A2 A3 A4 c0 c1 c2 c3 c4 g] w (PrgEnd w g.C.length (bZ1 g)):=by
 obtain ⟨p0,p1,p2,p3⟩:=bZj w (.cells #[.slice A0 g.T.length c0,.slice A1 g.N.length c1,.slice A2 g.S.length c2,.slice A3 g.M.length c3,.slice A4 g.C.length c4,.int .i64 g.dep,.int .i64 g.loc] 28) (.cells #[.int .i64 0,.int .i64 0] 31) (rdO 0 0)
 have hST:StL w (((w.alloc (.cells #[.slice A0 g.T.length c0,.slice A1 g.N.length c1,.slice A2 g.S.length c2,.slice A3 g.M.length c3,.slice A4 g.C.length c4,.int .i64 g.dep,.int .i64 g.loc] 28)).alloc (.cells #[.int .i64 0,.int .i64 0] 31)).alloc (rdO 0 0)) w.heap.size A0 A1 A2 A3 A4 c0 c1 c2 c3 c4 g:=⟨p3,p0,hI.below p3⟩
 have HW:=hid_ hW
 clear p0 p3 hI hW
 unfold aZ6
 go_enter Try.func13,Try.ntmps13
 go_upto_region 1 with (fail)
 generalize ((w.alloc (.cells #[.slice A0 g.T.length c0,.slice A1 g.N.length c1,.slice A2 g.S.length c2,.slice A3 g.M.length c3,.slice A4 g.C.length c4,.int .i64 g.dep,.int .i64 g.loc] 28)).alloc (.cells #[.int .i64 0,.int .i64 0] 31)).alloc (rdO 0 0)=W1 at hST p1 p2 ⊢
 obtain ⟨x0,x1,x2,x3,x4,x5,x6⟩:=aZm hST.box
 have HST:=hid_ hST
 have HF:=hid_ (And.intro p1 p2)
 clear p1 p2 hST
 go_wp2_with (fail)
 clear x0 x1 x2 x3 x4 x5 x6
 refine (show Calls _ _ _ _ _ from HW.out W1 HST.out.pg).mono ?_
 rw [hr]
 rintro e W2 ⟨bel,he⟩
 obtain rfl:=he
 have e0:(n == 0)=false:=by rw [beq_eq_false_iff_ne];exact hn
 have hS2:=aZc HF.out.1 bel
 have hF2:=aZc HF.out.2 bel
 have hA:=heap_alloc_new W2 (rdO 0 0)
 have hb2:=aZa (Below.refl W2.heap.size W2) (rdO 0 0)
 go_upto_region 2 with ((with_reducible refine aZD (t:=41) (p:=5) rfl ?_);refine wpList_store_row rfl 41 (.tmp 5) (.tmp 12) rfl W2.heap.size (rdC n i) rfl rfl 41 (rdC 0 0) hA (bZe n i) (bZg 0 0 n i) (bZ5 n i) ?_)
 have hB5:=setRow_heap _ _ _ (rdC n i) _ _ hA
 have hb3:Below W2.heap.size W2 ((W2.alloc (rdO 0 0)).setRow W2.heap.size (rdC n i)):=below_setRow hb2 (Nat.le_refl _) _
 have hS3:=aZc hS2 hb3
 have hF3:=aZc hF2 hb3
 have hbw:=HST.out.below.trans ((bel.trans (hb3.mono bel.size)).mono HST.out.below.size)
 have hlt2:=aZd hS2
 clear hA hb2 hF2 hS2 bel HST HF HW hb3
 generalize (W2.alloc (rdO 0 0)).setRow W2.heap.size (rdC n i)=W at hB5 hF3 hS3 hbw ⊢
 generalize W2.heap.size=b5 at hB5 hlt2 ⊢
 have y0:W.cell? ⟨b5,0,none⟩=some (.int .i64 n):=by simp [World.cell?,hB5]
 have HB5:=hid_ hB5
 have HBF:=hid_ hF3
 have HBS:=hid_ hS3
 have HBW:=hid_ hbw
 have HHR:=hid_ hr
 have HNE:=hid_ (show b5≠w.heap.size+1∧True from ⟨by omega,trivial⟩)
 clear hB5 hF3 hS3 hbw hr hn hlt2
 go_upto_region 3 with (fail)
 clear y0 e0
 go_cut [] (fun wx=>wx=((W.drew.setCell ⟨w.heap.size+1,0,none⟩ (.int .i64 0)).setCell ⟨w.heap.size+1,1,none⟩ (.int .i64 0)).setRow (w.heap.size+1+1) (rdC n i))
 case first =>
  refine cZ0 (n:=4) (S:=fun w'=>(w'.heap[b5]?=some (rdO n i)∧w'.heap[w.heap.size+1+1]?=some (rdO 0 0))) (ds:=[3]) (bm 4 0) (by kernel_rfl) rfl (by kernel_rfl) ⟨HB5.out,HBF.out⟩ (fun hHeld=>?_)
  refine bZa prg.tab3 prg.bits3 (fun HT_ HW_=>?_)
  refine aZC (i:=0) (N:=some 16) (v:=?_) (a':=?_) (bm 4 1) rfl rfl (aZl HT_.out (by kernel_rfl)) (fun _ _ _ h=>h) (Or.inl ⟨by rfl,?_⟩) ?_ ?_;rotate_left;(intro w';go_simp;with_reducible rfl);rotate_left;(simp only [Act.put,sZa,sZb,sZc];rfl)
  refine take_ (i:=1) (N:=some 17) (v:=?_) (a':=?_) (bm 4 3) rfl rfl (aZz HT_.out HW_.out (by kernel_rfl)) (fun _ _ _ h=>h) (Or.inl ⟨by rfl,?_⟩) hHeld ?_ ?_
  rotate_left
  ·
   intro w' hS'
   refine bZF (x:=.tmp 5) (g:=b5) (n:=n) (i:=i) ?h1 ?h2 ?h3
   case h3=>exact hS'.1
   case h1=>exact rfl
   exact rfl
  rotate_left
  ·
   simp only [Act.put,sZa,sZb,sZc]
   rfl
  refine one_ (i:=2) (N:=none) (bm 4 7) rfl rfl (aZU HT_.out (by kernel_rfl)) (by decide) (fun K hK=>?_)
  have y0:W.cell? ⟨w.heap.size+1,0,none⟩=some (.int .i64 0):=by simp [World.cell?,HBS.out]
  have y1:W.cell? ⟨w.heap.size+1,1,none⟩=some (.int .i64 0):=by simp [World.cell?,HBS.out]
  have yf:=froz HBS.out
  go_simp
  refine hK.out _ _ ⟨(cZR W.drew _ _ _ b5 HNE.out.1).trans HB5.out,(cZR W.drew _ _ _ (w.heap.size+1+1) (by omega)).trans HBF.out⟩ (fun hHeld=>?_)
  clear y0 y1 yf
  clear hK K
  refine gZp (i:=3) (N:=none) (bm 4 15) rfl rfl (aZU HT_.out (by kernel_rfl)) (by decide) (fun K hK=>?_)
  rw [if_pos (by rfl)]
  refine wp_store_row 41 (.tmp 3) (.tmp 17) rfl (w.heap.size+1+1) (rdC n i) rfl rfl 41 (rdC 0 0) hHeld.2 (bZe n i) (bZg 0 0 n i) (bZ5 n i) ?_
  refine hK.out _ _ ?_
  clear hK K
  refine eZl (bZ8 HT_.out (by kernel_rfl)) ?_
  go_wp2_with (fail)
  go_meet
  rfl
 case rest =>
  obtain rfl:=hcut
  have hF4:((W.drew.setCell ⟨w.heap.size+1,0,none⟩ (.int .i64 0)).setCell ⟨w.heap.size+1,1,none⟩ (.int .i64 0)).heap[w.heap.size+1+1]?=some (rdO 0 0):=(cZR W.drew _ _ _ (w.heap.size+1+1) (by omega)).trans HBF.out
  have hS4:((W.drew.setCell ⟨w.heap.size+1,0,none⟩ (.int .i64 0)).setCell ⟨w.heap.size+1,1,none⟩ (.int .i64 0)).heap[w.heap.size+1]?=some (.cells #[.int .i64 0,.int .i64 0] 31 (0,0)):=bZV W.drew _ _ _ ⟨_,_,HBS.out⟩
  have HH:=hid_ (And.intro hF4 hS4)
  clear hF4 hS4
  go_wp2_with (fail)
  refine bodyPost_ret (results13 _ _ (w.heap.size+1) (w.heap.size+1+1) (.int .i64 0) (.int .i64 0) n i ?_ ?_ ((aZk _ _ _ _ (by omega)).trans HH.out.2) (setRow_heap _ _ _ _ _ _ HH.out.1)) ?_ ?_
  · kernel_rfl
  · kernel_rfl
  · kernel_rfl
  ·
   rw [HHR.out]
   exact ⟨below_setRow ((HBW.out.drew.setCell (by simp) _).setCell (by simp) _) (by omega) _,rfl⟩
theorem prg_ok (w:World) (A0 A1 A2 A3 A4:Option Addr) (c0 c1 c2 c3 c4:Nat) (g:Pg) (hI:InPg w A0 A1 A2 A3 A4 c0 c1 c2 c3 c4 g) {l:List Pr} (hr:bZ1 g=.ok l) (hll:l.length≤40000)
 (hW:∀ W,InPg W A0 A1 A2 A3 A4 c0 c1 c2 c3 c4 g→Calls Try.prog 31 #[aZ6 A0 A1 A2 A3 A4 c0 c1 c2 c3 c4 g] W (dZc W (bZ1 g))) :
 Calls Try.prog 13 #[aZ6 A0 A1 A2 A3 A4 c0 c1 c2 c3 c4 g] w (PrgEnd w g.C.length (bZ1 g)):=by
 obtain ⟨p0,p1,p2,p3⟩:=bZj w (.cells #[.slice A0 g.T.length c0,.slice A1 g.N.length c1,.slice A2 g.S.length c2,.slice A3 g.M.length c3,.slice A4 g.C.length c4,.int .i64 g.dep,.int .i64 g.loc] 28) (.cells #[.int .i64 0,.int .i64 0] 31) (rdO 0 0)
 have hST:StL w (((w.alloc (.cells #[.slice A0 g.T.length c0,.slice A1 g.N.length c1,.slice A2 g.S.length c2,.slice A3 g.M.length c3,.slice A4 g.C.length c4,.int .i64 g.dep,.int .i64 g.loc] 28)).alloc (.cells #[.int .i64 0,.int .i64 0] 31)).alloc (rdO 0 0)) w.heap.size A0 A1 A2 A3 A4 c0 c1 c2 c3 c4 g:=⟨p3,p0,hI.below p3⟩
 have HW:=hid_ hW
 clear p0 p3 hI hW
 unfold aZ6
 go_enter Try.func13,Try.ntmps13
 go_upto_region 1 with (fail)
 generalize ((w.alloc (.cells #[.slice A0 g.T.length c0,.slice A1 g.N.length c1,.slice A2 g.S.length c2,.slice A3 g.M.length c3,.slice A4 g.C.length c4,.int .i64 g.dep,.int .i64 g.loc] 28)).alloc (.cells #[.int .i64 0,.int .i64 0] 31)).alloc (rdO 0 0)=W1 at hST p1 p2 ⊢
 obtain ⟨x0,x1,x2,x3,x4,x5,x6⟩:=aZm hST.box
 have HST:=hid_ hST
 have HF:=hid_ (And.intro p1 p2)
 clear p1 p2 hST
 go_wp2_with (fail)
 clear x0 x1 x2 x3 x4 x5 x6
 refine (show Calls _ _ _ _ _ from HW.out W1 HST.out.pg).mono ?_
 rw [hr]
 rintro e W2 ⟨bel,he⟩
 obtain ⟨v,rfl,hv⟩:=he
 have hS2:=aZc HF.out.1 bel
 have hF2:=aZc HF.out.2 bel
 have hX2:=aZc HST.out.box bel
 have hA:=heap_alloc_new W2 (rdO 0 0)
 have hb2:=aZa (Below.refl W2.heap.size W2) (rdO 0 0)
 go_upto_region 2 with ((with_reducible refine aZD (t:=41) (p:=5) rfl ?_);refine wpList_store_row rfl 41 (.tmp 5) (.tmp 12) rfl W2.heap.size (rdC 0 0) rfl rfl 41 (rdC 0 0) hA (bZe 0 0) (bZg 0 0 0 0) (bZ5 0 0) ?_)
 have hB5:=setRow_heap _ _ _ (rdC 0 0) _ _ hA
 have hb3:Below W2.heap.size W2 ((W2.alloc (rdO 0 0)).setRow W2.heap.size (rdC 0 0)):=below_setRow hb2 (Nat.le_refl _) _
 have hS3:=aZc hS2 hb3
 have hF3:=aZc hF2 hb3
 have hX3:=aZc hX2 hb3
 have hbw:=HST.out.below.trans ((bel.trans (hb3.mono bel.size)).mono HST.out.below.size)
 have hv3:=Kd.R_lower (Kd.R_below hv hb3) HST.out.below.size
 clear hA hb2 hF2 hS2 hX2 bel HST HF HW hb3 hv
 generalize (W2.alloc (rdO 0 0)).setRow W2.heap.size (rdC 0 0)=W at hB5 hF3 hS3 hX3 hbw hv3 ⊢
 generalize W2.heap.size=b5 at hB5 ⊢
 obtain ⟨Av,cv,rfl⟩:=Kd.R_slice hv3
 have y0:W.cell? ⟨b5,0,none⟩=some (.int .i64 0):=by simp [World.cell?,hB5]
 have HV:=hid_ (And.intro hv3 (And.intro hF3 (And.intro hS3 (And.intro hX3 hbw))))
 have HHR:=hid_ hr
 clear hB5 hF3 hS3 hX3 hbw hr hv3
 go_wp2_with (fail)
 clear y0
 go_loopw [6,7] (fun s6 s7 wr=>∃ j:Nat,s7=.int .i64 j∧s6=.int .i64 (dZQ (l.take j))∧j≤l.length∧wr=W) (fun _ s7 _=>l.length - (intOf s7).toNat)
 case atStart=>exact ⟨0,rfl,rfl,Nat.zero_le _,rfl⟩
 case round =>
  obtain ⟨j,rfl,rfl,hj,hw⟩:=hrel
  rw [hw]
  clear hw wr
  by_cases hlt:j<l.length
  ·
   obtain ⟨ad,c,B1,d1,B2,d2,hve,k0,-,-,-⟩:=hZt (I:=fun _=>False) HV.out.1 (fun _ _ h=>h) j hlt
   simp only [Value.slice.injEq] at hve
   obtain ⟨rfl,-,rfl⟩:=hve
   have i0:(0:Int)≤(j:Int):=by omega
   have i1:(j:Int)<(l.length:Int):=by omega
   have hsn:=fZp (l.take j) (l.getD j ([],[]))
   rw [←fZb l j hlt] at hsn
   generalize dZQ (l.take j)=D at hsn ⊢
   generalize hp:(l.getD j ([],[])).1.length=p at k0 hsn
   have HP:=hid_ hp
   clear hp
   have HSN:=hid_ hsn
   clear hsn
   by_cases hgt:D<(p:Int)
   ·
    have dg:decide ((p:Int) > D)=true:=decide_eq_true hgt
    have hmx:max D (p:Int)=(p:Int):=by omega
    have HMX:=hid_ hmx
    clear hgt hmx
    go_wp2_with (fail)
    go_roundw
    case rel=>exact ⟨j+1,by go_num,by rw [HSN.out,HMX.out],hlt,by first|trivial|rfl⟩
    case measure=>simp [intOf];omega
   ·
    have dg:decide ((p:Int) > D)=false:=decide_eq_false hgt
    have hmx:max D (p:Int)=D:=by omega
    have HMX:=hid_ hmx
    clear hgt hmx
    go_wp2_with (fail)
    go_roundw
    case rel=>exact ⟨j+1,by go_num,by rw [HSN.out,HMX.out],hlt,by first|trivial|rfl⟩
    case measure=>simp [intOf];omega
  ·
   have hje:j=l.length:=by omega
   have hge:¬(j:Int)<(l.length:Int):=by omega
   have hdl:dZQ (l.take j)=dZQ l:=by rw [hje,List.take_length]
   rw [hdl]
   generalize hD:dZQ l=D
   have HD:=hid_ hD
   obtain ⟨x0,x1,x2,x3,x4,x5,x6⟩:=aZm HV.out.2.2.2.1
   have z0:W.cell? ⟨w.heap.size+1,0,none⟩=some (.int .i64 0):=by simp [World.cell?,HV.out.2.2.1]
   have z1:W.cell? ⟨w.heap.size+1,1,none⟩=some (.int .i64 0):=by simp [World.cell?,HV.out.2.2.1]
   have zf:=froz HV.out.2.2.1
   have hF4:((W.setCell ⟨w.heap.size+1,0,none⟩ (.int .i64 D)).setCell ⟨w.heap.size+1,1,none⟩ (.int .i64 g.C.length)).heap[w.heap.size+1+1]?=some (rdO 0 0):=(cZR W _ _ _ (w.heap.size+1+1) (by omega)).trans HV.out.2.1
   have hS4:((W.setCell ⟨w.heap.size+1,0,none⟩ (.int .i64 D)).setCell ⟨w.heap.size+1,1,none⟩ (.int .i64 g.C.length)).heap[w.heap.size+1]?=some (.cells #[.int .i64 D,.int .i64 g.C.length] 31 (0,0)):=bZV W _ _ _ ⟨_,_,HV.out.2.2.1⟩
   have HH:=hid_ (And.intro hF4 hS4)
   clear hF4 hS4 hje hlt hdl hD
   go_wp2_with ((with_reducible refine aZD (t:=41) (p:=3) rfl ?_);refine wpList_store_row rfl 41 (.tmp 3) (.tmp 43) rfl (w.heap.size+1+1) (rdC 0 0) rfl rfl 41 (rdC 0 0) HH.out.1 (bZe 0 0) (bZg 0 0 0 0) (bZ5 0 0) ?_)
   refine bodyPost_ret (results13 _ _ (w.heap.size+1) (w.heap.size+1+1) (.int .i64 D) (.int .i64 g.C.length) 0 0 ?_ ?_ ((aZk _ _ _ _ (by omega)).trans HH.out.2) (setRow_heap _ _ _ _ _ _ HH.out.1)) ?_ ?_
   · kernel_rfl
   · kernel_rfl
   · kernel_rfl
   ·
    rw [HHR.out]
    exact ⟨below_setRow ((HV.out.2.2.2.2.setCell (by simp) _).setCell (by simp) _) (by omega) _,by dsimp only;rw [HD.out]⟩
structure Runs (k:Wk) (told:List (List Int)) (m:Int) (Z:List St):Prop where
  len:Z.length=k.C.length
  told:told=Z.map St.stk
  deep:∀ σ∈Z,(σ.stk.length:Int)≤m
  first:∀ σ,Z.head?=some σ→σ.stk=[]∧LeL σ.loc (List.replicate k.loc.toNat 0)
  good:∀ j,j<k.C.length→GoodAt k j (Z.drop j)
theorem runs_of {nT nN nS nM:Nat} {C:List S66} {dep loc:Int} {t:List (List Int)} {m:Int} (h:aZT nT nN nS nM C dep loc=.ok (t,m)):0<C.length∧C.length≤32768∧∃ Z,Runs (K0 nT nN nS nM C dep loc) t m Z:=by
 by_cases hD:aZB nT nN nS nM C dep loc
 · rw [dZm hD] at h;cases h
 rw [cZN hD] at h
 split at h
 · cases h
 rename_i hc
 unfold aZB at hD
 refine ⟨by omega,by omega,?_⟩
 unfold runF at h
 obtain ⟨Z,b1,b2,b3,b4,b5,b6,b7⟩:=fZe (K0 nT nN nS nM C dep loc) (by show 0≤loc;omega) _ 0 ⟨[],List.replicate loc.toNat 0,false⟩ [] [] 0 t m (Nat.zero_add _) (by simp [K0]) (fun x hx=>by cases hx) h
 exact ⟨Z,b1,by simpa using b2,b4,fun σ hσ=>b5 σ hσ,fun j hj=>by have:=b7 j hj;rwa [Nat.zero_add] at this⟩
theorem dZE (l:List Int) (hl:l.length≤100000):∀ (d i:Nat),i+d=l.length→berthlaw21_sameCells.l0 (d+1) l l (i:Int)=some true
  | 0,i,h=>by
    rw [berthlaw21_sameCells.l0,if_neg (by omega)]
  | d+1,i,h=>by
    rw [berthlaw21_sameCells.l0,if_pos (by omega),if_pos (by omega),if_pos (by omega),if_pos rfl,show wrap64 ((i:Int)+1)=((i+1:Nat):Int) by rw [bZT _ (by omega) (by omega)];push_cast;rfl]
    exact dZE l hl d (i+1) (by omega)
theorem fZH (w:World) (A0 A1:Option Addr) (c0 c1:Nat) (l:List Int) (hl:l.length≤100000) (h0:Kd.C (Kd.int .i64) w A0 l.length l) (g0:l.length≤c0) (h1:Kd.C (Kd.int .i64) w A1 l.length l) (g1:l.length≤c1) :
    Calls Try.prog 17 #[.slice A0 l.length c0,.slice A1 l.length c1] w fun e w'=>e=.returned (.bool true)∧Drawn0 w w' :=
  berthlaw21_sameCells.calls (l.length+1) A0 c0 l A1 c1 l true w h0 g0 h1 g1 (by unfold berthlaw21_sameCells.f;rw [if_pos rfl];exact dZE l hl l.length 0 (Nat.zero_add _))
theorem eZm (w:World) (A0 A1 A2 A3 A4:Option Addr) (c0 c1 c2 c3 c4:Nat) (g:Pg) (hI:InPg w A0 A1 A2 A3 A4 c0 c1 c2 c3 c4 g) (f:Fits g) :
 Calls Try.prog 31 #[aZ6 A0 A1 A2 A3 A4 c0 c1 c2 c3 c4 g] w (dZc w (bZ1 g)):=by
 by_cases hD:aZB g.T.length g.N.length g.S.length g.M.length g.C g.dep g.loc
 · exact dZ8 w A0 A1 A2 A3 A4 c0 c1 c2 c3 c4 g hI f (.inl hD)
 ·
  by_cases hn:g.C.length=0
  · exact dZ8 w A0 A1 A2 A3 A4 c0 c1 c2 c3 c4 g hI f (.inr hn)
  · exact walk_runs w A0 A1 A2 A3 A4 c0 c1 c2 c3 c4 g hI hD hn
theorem dZC (g:Pg):(∃ i n,aZt g=.error (i,n)∧bZ1 g=.error (i,n)∧n≠0)∨∃ t m l,aZt g=.ok (t,m)∧bZ1 g=.ok l∧t=l.map Prod.fst∧m=dZQ l∧l.length≤32768∧t.length=g.C.length:=by
  have h:=hZS g.T.length g.N.length g.S.length g.M.length g.C g.dep g.loc
  cases ha:aZt g with
  | error x =>
    obtain ⟨i,n⟩:=x
    have ha':aZT g.T.length g.N.length g.S.length g.M.length g.C g.dep g.loc=.error (i,n):=ha
    rw [ha'] at h
    exact .inl ⟨i,n,rfl,h,cZM g i n (by rw [ha];rfl)⟩
  | ok x =>
    obtain ⟨t,m⟩:=x
    have ha':aZT g.T.length g.N.length g.S.length g.M.length g.C g.dep g.loc=.ok (t,m):=ha
    rw [ha'] at h
    obtain ⟨r,h1,h2,h3⟩:=h
    obtain ⟨-,q2,Z,hZ⟩:=runs_of ha'
    have hl:t.length=g.C.length:=by rw [hZ.told,List.length_map];exact hZ.len
    exact .inr ⟨t,m,r,rfl,h1,h2,h3,by have:t.length=r.length:=(by rw [h2,List.length_map]);omega,hl⟩
theorem gZd (w:World) (A0 A1 A2 A3 A4:Option Addr) (c0 c1 c2 c3 c4:Nat) (g:Pg) (hI:InPg w A0 A1 A2 A3 A4 c0 c1 c2 c3 c4 g) (f:Fits g) :
 Calls Try.prog 13 #[aZ6 A0 A1 A2 A3 A4 c0 c1 c2 c3 c4 g] w fun e w'=>e=.returned (.tuple #[.agg #[.int .i64 (mostR (aZt g)),.int .i64 (eZy g.C.length (aZt g))],rdV (codeR (errR (aZt g))) (atR (errR (aZt g)))])∧Below w.heap.size w w':=by
 rcases dZC g with ⟨i,n,ha,hw,hn⟩ | ⟨t,m,l,ha,hw,ht,hm,hl,-⟩
 ·
  refine (prg_err w A0 A1 A2 A3 A4 c0 c1 c2 c3 c4 g hI hn hw (fun W h=>eZm W A0 A1 A2 A3 A4 c0 c1 c2 c3 c4 g h f)).mono ?_
  rintro e w' ⟨hb,he⟩
  rw [hw] at he
  rw [ha]
  exact ⟨he,hb⟩
 ·
  refine (prg_ok w A0 A1 A2 A3 A4 c0 c1 c2 c3 c4 g hI hw (by omega) (fun W h=>eZm W A0 A1 A2 A3 A4 c0 c1 c2 c3 c4 g h f)).mono ?_
  rintro e w' ⟨hb,he⟩
  rw [hw] at he
  rw [ha,hm]
  exact ⟨he,hb⟩
theorem gZT (w:World) (A0 A1 A2 A3 A4:Option Addr) (c0 c1 c2 c3 c4:Nat) (g:Pg) (hI:InPg w A0 A1 A2 A3 A4 c0 c1 c2 c3 c4 g) (f:Fits g) :
 Calls Try.prog 15 #[aZ6 A0 A1 A2 A3 A4 c0 c1 c2 c3 c4 g] w fun e w'=>∃ v,e=.returned (.tuple #[v,rdV (codeR (errR (aZt g))) (atR (errR (aZt g)))])∧kStk.R 23 w' w.heap.size (fun _=>True) v (toldR (aZt g))∧Below w.heap.size w w':=by
 rcases dZC g with ⟨i,n,ha,hw,hn⟩ | ⟨t,m,l,ha,hw,ht,hm,hl,-⟩
 ·
  refine (stks_err w A0 A1 A2 A3 A4 c0 c1 c2 c3 c4 g hI hn hw (fun W h=>eZm W A0 A1 A2 A3 A4 c0 c1 c2 c3 c4 g h f)).mono ?_
  rintro e w' ⟨hb,he⟩
  rw [hw] at he
  rw [ha]
  exact ⟨_,he,Kd.R_nil _ _ _ _ _,hb⟩
 ·
  refine (stks_ok w A0 A1 A2 A3 A4 c0 c1 c2 c3 c4 g hI hw (by omega) (fun W h=>eZm W A0 A1 A2 A3 A4 c0 c1 c2 c3 c4 g h f)).mono ?_
  rintro e w' ⟨hb,he⟩
  rw [hw] at he
  obtain ⟨v,he,hv⟩:=he
  rw [ha]
  exact ⟨v,he,by rw [show toldR (.ok (t,m))=t from rfl,ht];exact hv,hb⟩
theorem told_len (g:Pg):(toldR (aZt g)).length≤32768:=by
 rcases dZC g with ⟨i,n,ha,-,-⟩ | ⟨t,m,l,ha,-,ht,-,hl,-⟩
 · rw [ha];exact Nat.zero_le _
 · rw [ha,show toldR (.ok (t,m))=t from rfl,ht,List.length_map];exact hl
theorem fZa (g:Pg):∀ x∈toldR (aZt g),x.length≤100000:=by
 intro x hx
 rcases dZC g with ⟨i,n,ha,-,-⟩ | ⟨t,m,l,ha,-,-,-,-,-⟩
 · rw [ha] at hx;cases hx
 ·
  rw [ha,show toldR (.ok (t,m))=t from rfl] at hx
  have ha':aZT g.T.length g.N.length g.S.length g.M.length g.C g.dep g.loc=.ok (t,m):=ha
  obtain ⟨-,-,Z,hZ⟩:=runs_of ha'
  rw [hZ.told] at hx
  obtain ⟨σ,hσ,rfl⟩:=List.mem_map.1 hx
  have h1:=hZ.deep σ hσ
  by_cases hD:aZB g.T.length g.N.length g.S.length g.M.length g.C g.dep g.loc
  ·
   rw [dZm hD] at ha'
   cases ha'
  ·
   unfold aZB at hD
   have h2:=(iZr ha' 128 1024 (by omega) (by omega) (by omega) (by omega)).2.1
   omega
def rb.T6:Bool × List (List Nat × List Nat):=(true,[([],[]),([],[]),([],[]),([0,0],[0]),([1,3,0,1,3],[1]),([2,4,0,1,2,3,4],[2])])
def rb.B6:List Nat:=[0,0,0,1,11,31]
theorem rb.tab6:rtab .any (cZt Try.f19 6)=rb.T6:=by kernel_rfl
theorem rb.bits6:bZy rb.T6.2 rb.B6=true:=by kernel_rfl
def rb.T7:Bool × List (List Nat × List Nat):=(true,[([],[]),([],[]),([],[]),([0,0],[0]),([1,3,0,1,3],[1]),([2,4,0,1,2,3,4],[2])])
def rb.B7:List Nat:=[0,0,0,1,11,31]
theorem rb.tab7:rtab .any (cZt Try.f19 7)=rb.T7:=by kernel_rfl
theorem rb.bits7:bZy rb.T7.2 rb.B7=true:=by kernel_rfl
abbrev z7:Array Value:=#[.slice none 0 0,.slice none 0 0,.slice none 0 0,.slice none 0 0,.slice none 0 0,.int .i64 0,.int .i64 0]
theorem results19 (tmps:Array Value) (w:World) (P Q R:Nat) (cs:Array Value) (a b:Value) (n i:Int) (hcs:cs.size=7) (h2:tmps.getD 2 undef=.pointer (some ⟨P,0,none⟩)) (h3:tmps.getD 3 undef=.pointer (some ⟨Q,0,none⟩)) (h4:tmps.getD 4 undef=.pointer (some ⟨R,0,none⟩)) (hP:w.heap[P]?=some (.cells cs 28 (0,0))) (hQ:w.heap[Q]?=some (.cells #[a,b] 31 (0,0))) (hR:w.heap[R]?=some (rdO n i)) :
    (results Try.f19 tmps).run Try.prog w=.ok (.tuple #[.agg cs,.agg #[a,b],rdV n i]) w:=by
  have hl:=run_loadVar_row (P:=Try.prog) w P 28 28 cs (0,0) _ hP Try.underlying28 rfl (by rw [hcs];kernel_rfl)
  have hl2:=run_loadVar_row (P:=Try.prog) w Q 31 31 #[a,b] (0,0) _ hQ Try.underlying31 rfl (by kernel_rfl)
  have hl3:=run_loadVar_row (P:=Try.prog) w R 41 41 _ (0,0) _ hR Try.underlying41 rfl (by kernel_rfl)
  have h2':tmps[2]?.getD undef=.pointer (some ⟨P,0,none⟩):=by simpa using h2
  have h3':tmps[3]?.getD undef=.pointer (some ⟨Q,0,none⟩):=by simpa using h3
  have h4':tmps[4]?.getD undef=.pointer (some ⟨R,0,none⟩):=by simpa using h4
  simp [results,Try.results19,h2',h3',h4',asAddr,hl,hl2,hl3]
theorem rows3 {w W:World} {P Q R:Nat} {cs0 cs c31:Array Value} {a b:Value} {n i:Int} (hB:Below w.heap.size w W) (hP:W.heap[P]?=some (.cells cs0 28 (0,0))) (hQ:W.heap[Q]?=some (.cells c31 31 (0,0))) (hR:W.heap[R]?=some (rdO 0 0)) (lP:w.heap.size≤P) (lQ:w.heap.size≤Q) (lR:w.heap.size≤R) (hPQ:P≠Q) (hPR:P≠R) (hQR:Q≠R) :
    (W.setRow P cs).heap[Q]?=some (.cells c31 31 (0,0))∧((W.setRow P cs).setRow Q #[a,b]).heap[R]?=some (rdO 0 0) ∧
    (((W.setRow P cs).setRow Q #[a,b]).setRow R (rdC n i)).heap[P]?=some (.cells cs 28 (0,0))∧(((W.setRow P cs).setRow Q #[a,b]).setRow R (rdC n i)).heap[Q]?=some (.cells #[a,b] 31 (0,0))∧(((W.setRow P cs).setRow Q #[a,b]).setRow R (rdC n i)).heap[R]?=some (rdO n i) ∧
    Below w.heap.size w (((W.setRow P cs).setRow Q #[a,b]).setRow R (rdC n i))∧∀ k,k≠P→k≠Q→k≠R→(((W.setRow P cs).setRow Q #[a,b]).setRow R (rdC n i)).heap[k]?=W.heap[k]?:=by
  have q1:(W.setRow P cs).heap[Q]?=some (.cells c31 31 (0,0)):=(aZk _ _ _ _ hPQ.symm).trans hQ
  have q2:(W.setRow P cs).heap[R]?=some (rdO 0 0):=(aZk _ _ _ _ hPR.symm).trans hR
  have q3:((W.setRow P cs).setRow Q #[a,b]).heap[R]?=some (rdO 0 0):=(aZk _ _ _ _ hQR.symm).trans q2
  exact ⟨q1, q3, (aZk _ _ _ _ hPR).trans ((aZk _ _ _ _ hPQ).trans (setRow_heap _ _ _ _ _ _ hP)), (aZk _ _ _ _ hQR).trans (setRow_heap _ _ _ _ _ _ q1), setRow_heap _ _ _ _ _ _ q3,
    below_setRow (below_setRow (below_setRow hB lP _) lQ _) lR _,fun k h1 h2 h3=>(aZk _ _ _ _ h3).trans ((aZk _ _ _ _ h2).trans (aZk _ _ _ _ h1))⟩
def iZw (w:World) (bs:List Int) (e:Ending) (w':World):Prop :=
  ∃ v,e=.returned (.tuple #[v,.agg #[.int .i64 (bmostR (aZE bs)),.int .i64 (bstepsR (aZE bs))],rdV (codeR (errR (aZE bs))) (atR (errR (aZE bs)))])∧IsPg w.heap.size (pgR (aZE bs)) v w'∧Below w.heap.size w w'
theorem pg0_is (w W:World) (base:Nat):IsPg base Pg0 (.agg z7) W:=⟨_,_,_,_,_,rfl,Kd.R_nil _ _ _ _ _,Kd.R_nil _ _ _ _ _,Kd.R_nil _ _ _ _ _,Kd.R_nil _ _ _ _ _,Kd.R_nil _ _ _ _ _⟩
theorem z28:(Try.prog.info? 28).map (·.size)=some z7.size:=by kernel_rfl
theorem z28_all:z7.all (·.oneCell')=true:=by kernel_rfl
theorem info28g (A0 A1 A2 A3 A4:Option Addr) (n0 n1 n2 n3 n4 c0 c1 c2 c3 c4:Nat) (d l:Int):(Try.prog.info? 28).map (·.size)=some (#[.slice A0 n0 c0,.slice A1 n1 c1,.slice A2 n2 c2,.slice A3 n3 c3,.slice A4 n4 c4,.int .i64 d,.int .i64 l]:Array Value).size:=by kernel_rfl
theorem all28g (A0 A1 A2 A3 A4:Option Addr) (n0 n1 n2 n3 n4 c0 c1 c2 c3 c4:Nat) (d l:Int):(#[.slice A0 n0 c0,.slice A1 n1 c1,.slice A2 n2 c2,.slice A3 n3 c3,.slice A4 n4 c4,.int .i64 d,.int .i64 l]:Array Value).all (·.oneCell')=true:=by simp [Array.all,Value.oneCell']
theorem gZ6 (a b:Int):(Try.prog.info? 31).map (·.size)=some (#[.int .i64 a,.int .i64 b]:Array Value).size:=by kernel_rfl
theorem all31g (a b:Int):(#[.int .i64 a,.int .i64 b]:Array Value).all (·.oneCell')=true:=by simp [Array.all,Value.oneCell']
theorem bZz {o:Oper} {a:Act} {w:World} {x:Operand} {g:Nat} {u v:Value} (ho:o.op=.load 31 x) (hx:a.eval x=.pointer (some ⟨g,0,none⟩)) (hg:w.heap[g]?=some (.cells #[u,v] 31 (0,0))):(execOp a.eval o).run Try.prog w=.ok (.value (.agg #[u,v])) w:=by
  unfold execOp
  simp only [ho,hx,Instr.loadAt,Instr.sureAddr,Sem.run_bind,Sem.run_pure,Result.andThen_ok,run_loadVar_row (P:=Try.prog) w g 31 31 #[u,v] (0,0) _ hg Try.underlying31 rfl (by kernel_rfl)]
theorem dZj {o:Oper} {a:Act} {w:World} {x:Operand} {g:Nat} {cs:Array Value} (hcs:cs.size=7) (ho:o.op=.load 28 x) (hx:a.eval x=.pointer (some ⟨g,0,none⟩)) (hg:w.heap[g]?=some (.cells cs 28 (0,0))):(execOp a.eval o).run Try.prog w=.ok (.value (.agg cs)) w:=by
  unfold execOp
  simp only [ho,hx,Instr.loadAt,Instr.sureAddr,Sem.run_bind,Sem.run_pure,Result.andThen_ok,run_loadVar_row (P:=Try.prog) w g 28 28 cs (0,0) _ hg Try.underlying28 rfl (by rw [hcs];kernel_rfl)]
theorem eZc (w:World) (A:Option Addr) (c:Nat) (bs:List Int) (hC:Kd.C (Kd.int .u8) w A bs.length bs) (hc:bs.length≤c) (G:Good bs) :
 Calls Try.prog 19 #[.slice A bs.length c] w (iZw w bs):=by
 obtain ⟨p0,p1,p2,p3⟩:=bZj w (.cells z7 28) (.cells #[.int .i64 0,.int .i64 0] 31) (rdO 0 0)
 go_enter Try.func19,Try.ntmps19
 go_upto_region 1 with (fail)
 generalize ((w.alloc (.cells z7 28)).alloc (.cells #[.int .i64 0,.int .i64 0] 31)).alloc (rdO 0 0)=W1 at p0 p1 p2 p3 ⊢
 have hC1:=Kd.C_below hC p3
 have hs1:=And.intro (aZd p2) p3.size
 have HP:=hid_ (And.intro p0 (And.intro p1 (And.intro p2 p3)))
 clear p0 p1 p2 p3 hC
 go_wp2_with (fail)
 refine (show Calls _ _ _ _ _ from fZM W1 A c bs hC1 hc G).mono ?_
 rintro e W2 ⟨gd,v,kf,bf,rfl,bel,hpg,hpr⟩
 obtain ⟨B0,B1,B2,B3,B4,e0,e1,e2,e3,e4,rfl,hI2⟩:=hpg.read
 have HP2:=hid_ (And.intro (aZc HP.out.1 bel) (And.intro (aZc HP.out.2.1 bel) (And.intro (aZc HP.out.2.2.1 bel) (HP.out.2.2.2.trans (bel.mono HP.out.2.2.2.size)))))
 have hs2:=bel.size
 have HPG:=hid_ (And.intro hpg (And.intro hI2 (And.intro hpr bel.size)))
 clear HP bel hpg hI2 hpr hC1
 unfold aZ6
 cases hpf:aZJ bs with
 | error fe =>
  obtain ⟨k,q⟩:=fe
  have hk:=eZd hpf
  have hpr:=HPG.out.2.2.1
  rw [hpf] at hpr
  obtain ⟨rfl,rfl,hg0⟩:=hpr
  have HBE:=hid_ (cZJ hpf)
  have e0':(kf == 0)=false:=by rw [beq_eq_false_iff_ne];exact hk
  clear hk hpf hg0
  go_upto_region 3 with (fail)
  have hb3:=aZa (Below.refl W2.heap.size W2) (.cells #[.slice B0 gd.T.length e0,.slice B1 gd.N.length e1,.slice B2 gd.S.length e2,.slice B3 gd.M.length e3,.slice B4 gd.C.length e4,.int .i64 gd.dep,.int .i64 gd.loc] 28)
  have h28:=aZc HP2.out.1 hb3
  have h31:=aZc HP2.out.2.1 hb3
  have h41:=aZc HP2.out.2.2.1 hb3
  have hbw:=HP2.out.2.2.2.trans (hb3.mono HP2.out.2.2.2.size)
  clear hb3 e0'
  generalize W2.alloc (.cells #[.slice B0 gd.T.length e0,.slice B1 gd.N.length e1,.slice B2 gd.S.length e2,.slice B3 gd.M.length e3,.slice B4 gd.C.length e4,.int .i64 gd.dep,.int .i64 gd.loc] 28)=W3 at h28 h31 h41 hbw ⊢
  obtain ⟨q1,q2,f1,f2,f3,fb,-⟩:=rows3 (cs:=z7) (a:=.int .i64 0) (b:=.int .i64 0) (n:=kf) (i:=bf) hbw h28 h31 h41 (Nat.le_refl _) (by omega) (by omega) (by omega) (by omega) (by omega)
  have HH:=hid_ (And.intro h28 (And.intro q1 (And.intro q2 (And.intro f1 (And.intro f2 (And.intro f3 fb))))))
  clear h28 h31 h41 hbw q1 q2 f1 f2 f3 fb
  go_wp2_with (first
   | ((with_reducible refine aZD (t:=28) (p:=2) rfl ?_);refine wpList_store_row ?_ 28 (.tmp 2) (.tmp 18) ?_ w.heap.size z7 ?_ ?_ 28 z7 ?_ ?_ ?_ ?_ ?_;rfl;rfl;rfl;rfl;exact HH.out.1;exact z28;rfl;exact z28_all)
   | ((with_reducible refine aZD (t:=31) (p:=3) rfl ?_);refine wpList_store_row ?_ 31 (.tmp 3) (.tmp 19) ?_ (w.heap.size+1) #[.int .i64 0,.int .i64 0] ?_ ?_ 31 #[.int .i64 0,.int .i64 0] ?_ ?_ ?_ ?_ ?_;rfl;rfl;rfl;rfl;exact HH.out.2.1;exact (gZ6 0 0);rfl;exact (all31g 0 0))
   | ((with_reducible refine aZD (t:=41) (p:=4) rfl ?_);refine wpList_store_row ?_ 41 (.tmp 4) (.tmp 22) ?_ (w.heap.size+1+1) (rdC kf bf) ?_ ?_ 41 (rdC 0 0) ?_ ?_ ?_ ?_ ?_;rfl;rfl;rfl;rfl;exact HH.out.2.2.1;exact (bZe kf bf);rfl;exact (bZ5 kf bf)))
  refine bodyPost_ret (results19 _ _ w.heap.size (w.heap.size+1) (w.heap.size+1+1) z7 (.int .i64 0) (.int .i64 0) kf bf rfl ?_ ?_ ?_ HH.out.2.2.2.1 HH.out.2.2.2.2.1 HH.out.2.2.2.2.2.1) ?_ ?_
  · kernel_rfl
  · kernel_rfl
  · kernel_rfl
  · kernel_rfl
  ·
   unfold iZw
   rw [HBE.out]
   exact ⟨_,rfl,pg0_is w _ _,HH.out.2.2.2.2.2.2⟩
 | ok hx =>
  obtain ⟨gh,qe⟩:=hx
  have hpr:=HPG.out.2.2.1
  rw [hpf] at hpr
  obtain ⟨rfl,rfl⟩:=hpr
  obtain ⟨hform,-⟩:=dZh bs G.byte _ _ hpf
  have fg:=dZA _ hform
  have HPF:=hid_ hpf
  clear hform hpf
  have hb3:=aZa (Below.refl W2.heap.size W2) (.cells #[.slice B0 gd.T.length e0,.slice B1 gd.N.length e1,.slice B2 gd.S.length e2,.slice B3 gd.M.length e3,.slice B4 gd.C.length e4,.int .i64 gd.dep,.int .i64 gd.loc] 28)
  have h5:=heap_alloc_new W2 (.cells #[.slice B0 gd.T.length e0,.slice B1 gd.N.length e1,.slice B2 gd.S.length e2,.slice B3 gd.M.length e3,.slice B4 gd.C.length e4,.int .i64 gd.dep,.int .i64 gd.loc] 28)
  have HP3:=hid_ (And.intro (aZc HP2.out.1 hb3) (And.intro (aZc HP2.out.2.1 hb3) (And.intro (aZc HP2.out.2.2.1 hb3) (HP2.out.2.2.2.trans (hb3.mono HP2.out.2.2.2.size)))))
  have HPG3:=hid_ (HPG.out.1.below_ hb3)
  have hI3:=HPG.out.2.1.below hb3
  go_upto_region 4 with (fail)
  clear hb3 HP2 HPG
  generalize W2.alloc (.cells #[.slice B0 gd.T.length e0,.slice B1 gd.N.length e1,.slice B2 gd.S.length e2,.slice B3 gd.M.length e3,.slice B4 gd.C.length e4,.int .i64 gd.dep,.int .i64 gd.loc] 28)=W3 at h5 HP3 HPG3 hI3 ⊢
  generalize W2.heap.size=b5 at h5 hs2 ⊢
  obtain ⟨x0,x1,x2,x3,x4,x5,x6⟩:=aZm h5
  have H5:=hid_ h5
  have HI3:=hid_ hI3
  clear h5 hI3
  go_wp2_with (fail)
  clear x0 x1 x2 x3 x4 x5 x6
  refine (show Calls _ _ _ _ _ from gZd W3 B0 B1 B2 B3 B4 e0 e1 e2 e3 e4 gd HI3.out fg).mono ?_
  rintro e W4 ⟨rfl,bel⟩
  have hcase:(aZE bs=.error (atR (errR (aZt gd)),codeR (errR (aZt gd)))∧codeR (errR (aZt gd))≠0)∨(codeR (errR (aZt gd))=0∧atR (errR (aZt gd))=0∧aZE bs=.ok (gd,mostR (aZt gd))∧eZy gd.C.length (aZt gd)=gd.C.length):=by
   cases ha:aZt gd with
   | error f =>
    obtain ⟨ai,an⟩:=f
    have han:an≠0:=by have:=cZM gd ai an;rw [ha] at this;exact this rfl
    exact .inl ⟨cZK HPF.out ha,han⟩
   | ok tm =>
    obtain ⟨t,m⟩:=tm
    exact .inr ⟨rfl,rfl,cZI HPF.out ha,rfl⟩
  generalize codeR (errR (aZt gd))=cn at hcase ⊢
  generalize atR (errR (aZt gd))=ca at hcase ⊢
  generalize mostR (aZt gd)=most at hcase ⊢
  generalize eZy gd.C.length (aZt gd)=steps at hcase ⊢
  have HP4:=hid_ (And.intro (aZc HP3.out.1 bel) (And.intro (aZc HP3.out.2.1 bel) (And.intro (aZc HP3.out.2.2.1 bel) (HP3.out.2.2.2.trans (bel.mono HP3.out.2.2.2.size)))))
  have hl4:=aZd HP4.out.2.2.1
  have H54:=hid_ (And.intro (aZc H5.out bel) (HPG3.out.below_ (bel.mono (Nat.le_refl _))))
  have HCS:=hid_ hcase
  clear bel HP3 H5 HPG3 HI3 HPF hcase
  obtain ⟨p0,p1,p2⟩:=aZ5 W4 (.cells #[.int .i64 most,.int .i64 steps] 31) (rdO 0 0)
  go_upto_region 5 with ((with_reducible refine aZD (t:=41) (p:=9) rfl ?_);refine wpList_store_row rfl 41 (.tmp 9) (.tmp 27) rfl (W4.heap.size+1) (rdC cn ca) rfl rfl 41 (rdC 0 0) p1 (bZe cn ca) (bZg 0 0 cn ca) (bZ5 cn ca) ?_)
  have q0:=(aZk _ (W4.heap.size+1) (rdC cn ca) W4.heap.size (by omega)).trans p0
  have q1:=setRow_heap _ _ _ (rdC cn ca) _ _ p1
  have bel:Below W4.heap.size W4 (((W4.alloc (.cells #[.int .i64 most,.int .i64 steps] 31)).alloc (rdO 0 0)).setRow (W4.heap.size+1) (rdC cn ca)):=below_setRow p2 (by omega) _
  have h28:=aZc HP4.out.1 bel
  have h31:=aZc HP4.out.2.1 bel
  have h41:=aZc HP4.out.2.2.1 bel
  have hbw:=HP4.out.2.2.2.trans (bel.mono HP4.out.2.2.2.size)
  have h5w:=aZc H54.out.1 bel
  have hpgw:=H54.out.2.below_ bel
  clear p0 p1 p2 bel HP4 H54
  generalize ((W4.alloc (.cells #[.int .i64 most,.int .i64 steps] 31)).alloc (rdO 0 0)).setRow (W4.heap.size+1) (rdC cn ca)=W at q0 q1 h28 h31 h41 hbw h5w hpgw ⊢
  have n5:b5≠w.heap.size∧b5≠w.heap.size+1∧b5≠w.heap.size+1+1:=by have:=hs1.1;omega
  have n8:W4.heap.size≠w.heap.size∧W4.heap.size≠w.heap.size+1∧W4.heap.size≠w.heap.size+1+1:=by omega
  have n9:W4.heap.size+1≠w.heap.size∧W4.heap.size+1≠w.heap.size+1∧W4.heap.size+1≠w.heap.size+1+1:=by omega
  generalize W4.heap.size+1=b9 at q1 n9 ⊢
  generalize W4.heap.size=b8 at q0 n8 hl4 ⊢
  have y0:W.cell? ⟨b9,0,none⟩=some (.int .i64 cn):=by simp [World.cell?,q1]
  have HN:=hid_ (And.intro n5 (And.intro n8 n9))
  have HQ:=hid_ (And.intro h5w (And.intro q0 q1))
  have HS1:=hid_ hs1
  clear n5 n8 n9 h5w q0 q1 hs1 hs2 hl4
  rcases HCS.out with ⟨hbf,hn0⟩ | ⟨hn0,hca,hbf,hst⟩
  ·
   have e0:(cn == 0)=false:=by rw [beq_eq_false_iff_ne];exact hn0
   have hrows:=rows3 (W:=W.drew) (cs:=z7) (a:=.int .i64 0) (b:=.int .i64 0) (n:=cn) (i:=ca) hbw.drew h28 h31 h41 (Nat.le_refl _) (by omega) (by omega) (by omega) (by omega) (by omega)
   have HR:=hid_ (And.intro h28 hrows)
   have HBF:=hid_ hbf
   clear hrows h28 h31 h41 hbw hbf hn0 HCS
   go_upto_region 6 with (fail)
   clear y0 e0
   go_cut [] (fun wx=>wx=((W.drew.setRow w.heap.size z7).setRow (w.heap.size+1) #[.int .i64 0,.int .i64 0]).setRow (w.heap.size+1+1) (rdC cn ca))
   case first =>
    refine cZ0 (n:=6) (S:=fun w'=>w'.heap[b9]?=some (rdO cn ca)) (ds:=[5]) (bm 6 0) (by kernel_rfl) rfl (by kernel_rfl) HQ.out.2.2 (fun hHeld=>?_)
    refine bZa rb.tab6 rb.bits6 (fun HT_ HW_=>?_)
    refine aZC (i:=0) (N:=some 31) (v:=?_) (a':=?_) (bm 6 1) rfl rfl (aZl HT_.out (by kernel_rfl)) (fun _ _ _ h=>h) (Or.inl ⟨by rfl,?_⟩) ?_ ?_;rotate_left;(intro w';go_simp;with_reducible rfl);rotate_left;(simp only [Act.put,sZa,sZb,sZc];rfl)
    refine aZC (i:=1) (N:=some 32) (v:=?_) (a':=?_) (bm 6 3) rfl rfl (aZl HT_.out (by kernel_rfl)) (fun _ _ _ h=>h) (Or.inl ⟨by rfl,?_⟩) ?_ ?_;rotate_left;(intro w';go_simp;with_reducible rfl);rotate_left;(simp only [Act.put,sZa,sZb,sZc];rfl)
    refine take_ (i:=2) (N:=some 33) (v:=?_) (a':=?_) (bm 6 7) rfl rfl (aZz HT_.out HW_.out (by kernel_rfl)) (fun _ _ _ h=>h) (Or.inl ⟨by rfl,?_⟩) hHeld ?_ ?_
    rotate_left
    ·
     intro w' hS'
     refine bZF (x:=.tmp 9) (g:=b9) (n:=cn) (i:=ca) ?_ ?_ (show w'.heap[b9]?=_ from hS')
     all_goals exact rfl
    rotate_left
    ·
     simp only [Act.put,sZa,sZb,sZc]
     rfl
    refine one_ (i:=3) (N:=none) (bm 6 15) rfl rfl (aZU HT_.out (by kernel_rfl)) (by decide) (fun K hK=>?_)
    rw [if_pos (by rfl)]
    refine wp_store_row 28 (.tmp 2) (.tmp 31) rfl w.heap.size z7 rfl rfl 28 z7 HR.out.1 z28 rfl z28_all ?_
    refine hK.out _ _ ((aZk _ _ _ _ HN.out.2.2.1).trans hHeld) (fun hHeld=>?_)
    clear hK K
    refine one_ (i:=4) (N:=none) (bm 6 31) rfl rfl (aZU HT_.out (by kernel_rfl)) (by decide) (fun K hK=>?_)
    rw [if_pos (by rfl)]
    refine wp_store_row 31 (.tmp 3) (.tmp 32) rfl (w.heap.size+1) #[.int .i64 0,.int .i64 0] rfl rfl 31 #[.int .i64 0,.int .i64 0] HR.out.2.1 (gZ6 0 0) rfl (all31g 0 0) ?_
    refine hK.out _ _ ((aZk _ _ _ _ HN.out.2.2.2.1).trans hHeld) (fun hHeld=>?_)
    clear hK K
    refine gZp (i:=5) (N:=none) (bm 6 63) rfl rfl (aZU HT_.out (by kernel_rfl)) (by decide) (fun K hK=>?_)
    rw [if_pos (by rfl)]
    refine wp_store_row 41 (.tmp 4) (.tmp 33) rfl (w.heap.size+1+1) (rdC cn ca) rfl rfl 41 (rdC 0 0) HR.out.2.2.1 (bZe cn ca) (bZg 0 0 cn ca) (bZ5 cn ca) ?_
    refine hK.out _ _ ?_
    clear hK K
    refine eZl (bZ8 HT_.out (by kernel_rfl)) ?_
    go_wp2_with (fail)
    go_meet
    rfl
   case rest =>
    subst hcut
    go_wp2_with (fail)
    obtain ⟨-,-,-,f1,f2,f3,fb,-⟩:=HR.out
    refine bodyPost_ret (results19 _ _ w.heap.size (w.heap.size+1) (w.heap.size+1+1) z7 (.int .i64 0) (.int .i64 0) cn ca rfl ?_ ?_ ?_ f1 f2 f3) ?_ ?_
    · kernel_rfl
    · kernel_rfl
    · kernel_rfl
    · kernel_rfl
    ·
     unfold iZw
     rw [HBF.out]
     exact ⟨_,rfl,pg0_is w _ _,fb⟩
  ·
   subst hn0
   subst hca
   subst hst
   have hrows:=rows3 (W:=W.drew) (cs:=#[.slice B0 gd.T.length e0,.slice B1 gd.N.length e1,.slice B2 gd.S.length e2,.slice B3 gd.M.length e3,.slice B4 gd.C.length e4,.int .i64 gd.dep,.int .i64 gd.loc]) (a:=.int .i64 most) (b:=.int .i64 gd.C.length) (n:=0) (i:=0) hbw.drew h28 h31 h41 (Nat.le_refl _) (by omega) (by omega) (by omega) (by omega) (by omega)
   have HR:=hid_ (And.intro h28 hrows)
   have HBF:=hid_ hbf
   have HPW:=hid_ hpgw
   clear hrows h28 h31 h41 hbw hbf HCS hpgw
   go_upto_region 7 with (fail)
   clear y0
   go_cut [] (fun wx=>wx=((W.drew.setRow w.heap.size #[.slice B0 gd.T.length e0,.slice B1 gd.N.length e1,.slice B2 gd.S.length e2,.slice B3 gd.M.length e3,.slice B4 gd.C.length e4,.int .i64 gd.dep,.int .i64 gd.loc]).setRow (w.heap.size+1) #[.int .i64 most,.int .i64 gd.C.length]).setRow (w.heap.size+1+1) (rdC 0 0))
   case first =>
    refine cZ0 (n:=6) (S:=fun w'=>(w'.heap[b5]?=some (.cells #[.slice B0 gd.T.length e0,.slice B1 gd.N.length e1,.slice B2 gd.S.length e2,.slice B3 gd.M.length e3,.slice B4 gd.C.length e4,.int .i64 gd.dep,.int .i64 gd.loc] 28 (0,0))∧w'.heap[b8]?=some (.cells #[.int .i64 most,.int .i64 gd.C.length] 31 (0,0)))) (ds:=[5]) (bm 6 0) (by kernel_rfl) rfl (by kernel_rfl) ⟨HQ.out.1,HQ.out.2.1⟩ (fun hHeld=>?_)
    refine bZa rb.tab7 rb.bits7 (fun HT_ HW_=>?_)
    refine aZC (i:=2) (N:=some 36) (v:=?_) (a':=?_) (bm 6 4) rfl rfl (aZl HT_.out (by kernel_rfl)) (fun _ _ _ h=>h) (Or.inl ⟨by rfl,?_⟩) ?_ ?_;rotate_left;(intro w';go_simp;with_reducible rfl);rotate_left;(simp only [Act.put,sZa,sZb,sZc];rfl)
    refine take_ (i:=0) (N:=some 34) (v:=?_) (a':=?_) (bm 6 5) rfl rfl (aZz HT_.out HW_.out (by kernel_rfl)) (fun _ _ _ h=>h) (Or.inl ⟨by rfl,?_⟩) hHeld ?_ ?_
    rotate_left
    ·
     intro w' hS'
     refine dZj (x:=.tmp 5) (g:=b5) (cs:=#[.slice B0 gd.T.length e0,.slice B1 gd.N.length e1,.slice B2 gd.S.length e2,.slice B3 gd.M.length e3,.slice B4 gd.C.length e4,.int .i64 gd.dep,.int .i64 gd.loc]) rfl ?_ ?_ (show w'.heap[b5]?=_ from hS'.1)
     all_goals exact rfl
    rotate_left
    ·
     simp only [Act.put,sZa,sZb,sZc]
     rfl
    refine take_ (i:=1) (N:=some 35) (v:=?_) (a':=?_) (bm 6 7) rfl rfl (aZz HT_.out HW_.out (by kernel_rfl)) (fun _ _ _ h=>h) (Or.inl ⟨by rfl,?_⟩) hHeld ?_ ?_
    rotate_left
    ·
     intro w' hS'
     refine bZz (x:=.tmp 8) (g:=b8) (u:=.int .i64 most) (v:=.int .i64 gd.C.length) ?_ ?_ (show w'.heap[b8]?=_ from hS'.2)
     all_goals exact rfl
    rotate_left
    ·
     simp only [Act.put,sZa,sZb,sZc]
     rfl
    refine one_ (i:=3) (N:=none) (bm 6 15) rfl rfl (aZU HT_.out (by kernel_rfl)) (by decide) (fun K hK=>?_)
    rw [if_pos (by rfl)]
    refine wp_store_row 28 (.tmp 2) (.tmp 34) rfl w.heap.size #[.slice B0 gd.T.length e0,.slice B1 gd.N.length e1,.slice B2 gd.S.length e2,.slice B3 gd.M.length e3,.slice B4 gd.C.length e4,.int .i64 gd.dep,.int .i64 gd.loc] rfl rfl 28 z7 HR.out.1 (info28g _ _ _ _ _ _ _ _ _ _ _ _ _ _ _ _ _) rfl (all28g _ _ _ _ _ _ _ _ _ _ _ _ _ _ _ _ _) ?_
    refine hK.out _ _ ⟨(aZk _ _ _ _ HN.out.1.1).trans hHeld.1,(aZk _ _ _ _ HN.out.2.1.1).trans hHeld.2⟩ (fun hHeld=>?_)
    clear hK K
    refine one_ (i:=4) (N:=none) (bm 6 31) rfl rfl (aZU HT_.out (by kernel_rfl)) (by decide) (fun K hK=>?_)
    rw [if_pos (by rfl)]
    refine wp_store_row 31 (.tmp 3) (.tmp 35) rfl (w.heap.size+1) #[.int .i64 most,.int .i64 gd.C.length] rfl rfl 31 #[.int .i64 0,.int .i64 0] HR.out.2.1 (gZ6 _ _) rfl (all31g _ _) ?_
    refine hK.out _ _ ⟨(aZk _ _ _ _ HN.out.1.2.1).trans hHeld.1,(aZk _ _ _ _ HN.out.2.1.2.1).trans hHeld.2⟩ (fun hHeld=>?_)
    clear hK K
    refine gZp (i:=5) (N:=none) (bm 6 63) rfl rfl (aZU HT_.out (by kernel_rfl)) (by decide) (fun K hK=>?_)
    rw [if_pos (by rfl)]
    refine wp_store_row 41 (.tmp 4) (.tmp 36) rfl (w.heap.size+1+1) (rdC 0 0) rfl rfl 41 (rdC 0 0) HR.out.2.2.1 (bZe 0 0) (bZg 0 0 0 0) (bZ5 0 0) ?_
    refine hK.out _ _ ?_
    clear hK K
    refine eZl (bZ8 HT_.out (by kernel_rfl)) ?_
    go_wp2_with (fail)
    go_meet
    rfl
   case rest =>
    subst hcut
    go_wp2_with (fail)
    obtain ⟨-,-,-,f1,f2,f3,fb,fo⟩:=HR.out
    refine bodyPost_ret (results19 _ _ w.heap.size (w.heap.size+1) (w.heap.size+1+1) #[.slice B0 gd.T.length e0,.slice B1 gd.N.length e1,.slice B2 gd.S.length e2,.slice B3 gd.M.length e3,.slice B4 gd.C.length e4,.int .i64 gd.dep,.int .i64 gd.loc] (.int .i64 most) (.int .i64 gd.C.length) 0 0 rfl ?_ ?_ ?_ f1 f2 f3) ?_ ?_
    · kernel_rfl
    · kernel_rfl
    · kernel_rfl
    · kernel_rfl
    ·
     unfold iZw
     rw [HBF.out]
     exact ⟨_,rfl,HPW.out.far HS1.out.2 (fun k hk=>fo k (by have:=HS1.out.1;omega) (by have:=HS1.out.1;omega) (by have:=HS1.out.1;omega)),fb⟩
theorem hZv (bs:List Int) (G:Good bs):Fits (pgR (aZE bs)):=by
  cases hp:aZJ bs with
  | error f=>obtain ⟨k,q⟩:=f;rw [cZJ hp];exact fits0
  | ok gq =>
    obtain ⟨g,q⟩:=gq
    obtain ⟨hf,-⟩:=dZh bs G.byte g q hp
    cases ha:aZt g with
    | error f=>rw [cZK hp ha];exact fits0
    | ok tm=>obtain ⟨t,m⟩:=tm;rw [cZI hp ha];exact dZA g hf
theorem cZ9 (b o:Nat):(⟨b,0,none⟩:Addr).add o=⟨b,o,none⟩:=by unfold Addr.add;split <;> simp_all
theorem C8_block {W W2:World} {b n:Nat} {k:IntKind} {xs:List Int} (h:Kd.C (Kd.int k) W (some ⟨b,0,none⟩) n xs) (hs:W2.heap[b]?=W.heap[b]?):Kd.C (Kd.int k) W2 (some ⟨b,0,none⟩) n xs:=by
  obtain ⟨h1,h2,h3⟩:=h
  refine ⟨h1,h2,fun hn=>?_⟩
  obtain ⟨ad,ha,hc⟩:=h3 hn
  injection ha with ha
  subst ha
  refine ⟨_,rfl,fun j p hj=>?_⟩
  obtain ⟨c,c1,c2,c3⟩:=hc j p hj
  refine ⟨c,c1,c2,fun i u hu=>?_⟩
  rw [←c3 i u hu,cZ9]
  exact World.cell?_of_block (by simpa using hs)
theorem C66_block {W W2:World} {b n:Nat} {xs:List S66} (h:Kd.C k66 W (some ⟨b,0,none⟩) n xs) (hs:W2.heap[b]?=W.heap[b]?):Kd.C k66 W2 (some ⟨b,0,none⟩) n xs:=by
  obtain ⟨h1,h2,h3⟩:=h
  refine ⟨h1,h2,fun hn=>?_⟩
  obtain ⟨ad,ha,hc⟩:=h3 hn
  injection ha with ha
  subst ha
  refine ⟨_,rfl,fun j p hj=>?_⟩
  obtain ⟨c,c1,c2,c3⟩:=hc j p hj
  obtain rfl:=eZq c2
  refine ⟨_,c1,dZM _ _,fun i u hu=>?_⟩
  rw [←c3 i u hu,cZ9]
  exact World.cell?_of_block (by simpa using hs)
theorem C8_put {W:World} {b n j:Nat} {cur:Array Value} {xs:List Int} (v:Int) (hC:Kd.C (Kd.int .u8) W (some ⟨b,0,none⟩) n xs) (hh:W.heap[b]?=some (.cells cur 5 (0,0))) (hj:j<cur.size) :
 Kd.C (Kd.int .u8) (W.setCell ⟨b,j,none⟩ (.int .u8 v)) (some ⟨b,0,none⟩) n (xs.set j v):=by
 have hr:(W.setCell ⟨b,j,none⟩ (.int .u8 v)).heap[b]?=some (.cells (cur.setIfInBounds j (.int .u8 v)) 5 (0,0)):=by
  rw [setCell_eq_setRow W b j cur 5 (0,0) _ hh];exact setRow_heap _ _ _ _ _ _ hh
 obtain ⟨h1,h2,h3⟩:=hC
 refine ⟨by rw [List.length_set];exact h1,h2,fun hn=>?_⟩
 obtain ⟨ad,ha,hc⟩:=h3 hn
 injection ha with ha
 subst ha
 refine ⟨_,rfl,fun i p hp=>?_⟩
 have h4:(Kd.int IntKind.u8).sz=1:=rfl
 by_cases hij:i=j
 ·
  subst hij
  have hl:i<xs.length:=by
   rcases Nat.lt_or_ge i xs.length with h|h
   · exact h
   · rw [List.getElem?_eq_none (by rw [List.length_set];exact h)] at hp;cases hp
  rw [List.getElem?_set_self hl] at hp
  obtain rfl:=Option.some.inj hp
  refine ⟨[.int .u8 v],rfl,rfl,fun q u hu=>?_⟩
  rw [cZ9,h4]
  match q,hu with
  | 0,hu =>
   obtain rfl:=Option.some.inj hu
   rw [cell_of_row _ b _ _ 5 (0,0) hr,Nat.mul_one,Nat.add_zero]
   exact Array.getElem?_setIfInBounds_self_of_lt hj
 ·
  rw [List.getElem?_set_ne (Ne.symm hij)] at hp
  obtain ⟨c,c1,c2,c3⟩:=hc i p hp
  refine ⟨c,c1,c2,fun q u hu=>?_⟩
  have h0:=c3 q u hu
  have hq:q<1:=by rw [←c1.trans h4];exact (List.getElem?_eq_some_iff.1 hu).1
  rw [cZ9,h4] at h0 ⊢
  rw [cell_of_row _ b _ _ 5 (0,0) hr,Array.getElem?_setIfInBounds_ne (by omega),←cell_of_row W b _ cur 5 (0,0) hh]
  exact h0
structure StA (base:Nat) (may:Nat→Prop) (w W:World) (X Bb cb:Nat) (A0 A1 A2 A3 A4:Option Addr) (c0 c1 c2 c3 c4:Nat) (g:Pg) (bs:List Int):Prop where
  wq:Wq may w W
  box:W.heap[X]?=some (.cells #[.slice A0 g.T.length c0,.slice A1 g.N.length c1,.slice A2 g.S.length c2,.slice A3 g.M.length c3,.slice A4 g.C.length c4,.int .i64 g.dep,.int .i64 g.loc] 28 (0,0))
  T:Kd.string.R 9 W base (fun _=>True) (.slice A0 g.T.length c0) g.T
  N:(Kd.int .i64).R 3 W base (fun _=>True) (.slice A1 g.N.length c1) g.N
  S:(Kd.slice 9 Kd.string).R 22 W base (fun _=>True) (.slice A2 g.S.length c2) g.S
  M:(Kd.slice 3 (Kd.int .i64)).R 23 W base (fun _=>True) (.slice A3 g.M.length c3) g.M
  C:Kd.C k66 W A4 g.C.length g.C
  lC:g.C.length≤c4
  row4:0<g.C.length→∃ (b:Nat) (cur:Array Value),A4=some ⟨b,0,none⟩∧may b∧W.heap[b]?=some (.cells cur 66 (0,0))
  rowB:∃ cur:Array Value,W.heap[Bb]?=some (.cells cur 5 (0,0))∧bs.length≤cur.size
  hB:Kd.C (Kd.int .u8) W (some ⟨Bb,0,none⟩) bs.length bs
section
variable {base:Nat} {may:Nat→Prop} {w W W2:World} {X Bb cb:Nat} {A0 A1 A2 A3 A4:Option Addr} {c0 c1 c2 c3 c4:Nat} {g:Pg} {bs:List Int}
theorem StA.next (h:StA base may w W X Bb cb A0 A1 A2 A3 A4 c0 c1 c2 c3 c4 g bs) (hb:Below W.heap.size W W2):StA base may w W2 X Bb cb A0 A1 A2 A3 A4 c0 c1 c2 c3 c4 g bs:=by
  obtain ⟨cur,k1,k2⟩:=h.rowB
  exact ⟨h.wq.trans (Wq.below hb), aZc h.box hb, Kd.R_below h.T hb, Kd.R_below h.N hb, Kd.R_below h.S hb, Kd.R_below h.M hb, Kd.C_below h.C hb, h.lC, fun hc => by
    obtain ⟨b,cur,e1,e2,e3⟩:=h.row4 hc
    exact ⟨b,cur,e1,e2,aZc e3 hb⟩,⟨cur,aZc k1 hb,k2⟩,Kd.C_below h.hB hb⟩
theorem StA.pg (h:StA base may w W X Bb cb A0 A1 A2 A3 A4 c0 c1 c2 c3 c4 g bs):InPg W A0 A1 A2 A3 A4 c0 c1 c2 c3 c4 g :=
  ⟨(Kd.R_reads' h.T).2.2,(Kd.R_reads' h.N).2.2,(Kd.R_reads' h.S).2.2,(Kd.R_reads' h.M).2.2,h.C,(Kd.R_reads' h.T).2.1,(Kd.R_reads' h.N).2.1,(Kd.R_reads' h.S).2.1,(Kd.R_reads' h.M).2.1,h.lC⟩
theorem StA.put (h:StA base may w W X Bb cb A0 A1 A2 A3 A4 c0 c1 c2 c3 c4 g bs) {b j:Nat} {cur:Array Value} {x:S66} (hA:A4=some ⟨b,0,none⟩) (hm:may b) (hh:W.heap[b]?=some (.cells cur 66 (0,0))) (hx:g.C[j]?=some x) (v:Int) :
 StA base may w (W.setCell ⟨b,j*4,none⟩ (.int .i64 v)) X Bb cb A0 A1 A2 A3 A4 c0 c1 c2 c3 c4 ⟨g.T,g.N,g.S,g.M,g.C.set j ⟨v,x.f1,x.f2,x.f3⟩,g.dep,g.loc⟩ bs:=by
 subst hA
 obtain ⟨curB,k1,k2⟩:=h.rowB
 have hz:=Wq.set (may:=may) (i:=j*4) hh hm (.int .i64 v)
 obtain ⟨c1',g1,g2⟩:=hz.row b cur 66 hh
 have hne:∀ {k:Nat} {cs:Array Value} {t:Nat},W.heap[k]?=some (.cells cs t (0,0))→t≠66→k≠b:=fun {k cs t} hk ht e=>by
  subst e;rw [hh] at hk;injection hk with hk;injection hk with _ q;exact ht q.symm
 have hsame:∀ {k:Nat} {cs:Array Value} {t:Nat},W.heap[k]?=some (.cells cs t (0,0))→t≠66→(W.setCell ⟨b,j*4,none⟩ (.int .i64 v)).heap[k]?=W.heap[k]?:=fun hk ht=>Below.heap_setCell W ⟨b,j*4,none⟩ _ _ (hne hk ht)
 refine ⟨h.wq.trans hz,?_,Kd.R_set h.T hh ?_ _ _,Kd.R_set h.N hh ?_ _ _,Kd.R_set h.S hh ?_ _ _,Kd.R_set h.M hh ?_ _ _,?_,?_,fun hc=>⟨b,c1',rfl,hm,g1⟩,⟨curB,(hsame k1 (by decide)).trans k1,k2⟩,C8_block h.hB (hsame k1 (by decide))⟩
 · rw [List.length_set];exact (hsame h.box (by decide)).trans h.box
 · decide
 · decide
 · decide
 · decide
 · rw [List.length_set];exact C66_put v h.C hh hx
 · rw [List.length_set];exact h.lC
theorem StA.putB (h:StA base may w W X Bb cb A0 A1 A2 A3 A4 c0 c1 c2 c3 c4 g bs) (hm:may Bb) (j:Nat) (hj:j<bs.length) (v:Int) :
 StA base may w (W.setCell ⟨Bb,j,none⟩ (.int .u8 v)) X Bb cb A0 A1 A2 A3 A4 c0 c1 c2 c3 c4 g (bs.set j v):=by
 obtain ⟨cur,hh,k2⟩:=h.rowB
 have hz:=Wq.set (may:=may) (i:=j) hh hm (.int .u8 v)
 obtain ⟨c1',g1,g2⟩:=hz.row Bb cur 5 hh
 have hne:∀ {k:Nat} {cs:Array Value} {t:Nat},W.heap[k]?=some (.cells cs t (0,0))→t≠5→k≠Bb:=fun {k cs t} hk ht e=>by
  subst e;rw [hh] at hk;injection hk with hk;injection hk with _ q;exact ht q.symm
 have hsame:∀ {k:Nat} {cs:Array Value} {t:Nat},W.heap[k]?=some (.cells cs t (0,0))→t≠5→(W.setCell ⟨Bb,j,none⟩ (.int .u8 v)).heap[k]?=W.heap[k]?:=fun hk ht=>Below.heap_setCell W ⟨Bb,j,none⟩ _ _ (hne hk ht)
 refine ⟨h.wq.trans hz,(hsame h.box (by decide)).trans h.box,Kd.R_set h.T hh ?_ _ _,Kd.R_set h.N hh ?_ _ _,Kd.R_set h.S hh ?_ _ _,Kd.R_set h.M hh ?_ _ _,?_,h.lC,fun hc=>?_,⟨c1',g1,by rw [List.length_set];omega⟩,?_⟩
 · decide
 · decide
 · decide
 · decide
 ·
  rcases Nat.eq_zero_or_pos g.C.length with h0|h0
  ·
   obtain ⟨q1,q2,-⟩:=h.C
   exact ⟨q1,q2,fun hn=>by omega⟩
  ·
   obtain ⟨b,cur4,rfl,-,e3⟩:=h.row4 h0
   exact C66_block h.C (hsame e3 (by decide))
 ·
  obtain ⟨b,cur4,e1,e2,e3⟩:=h.row4 hc
  exact ⟨b,cur4,e1,e2,(hsame e3 (by decide)).trans e3⟩
 · rw [List.length_set];exact C8_put v h.hB hh (by omega)
end
theorem hZB (l:List ByteArray) (hl:l.length≤140737488351232):∀ (d i:Nat),i+d=l.length→berthref20_LessTexts.l0 (2*d+2) l l (i:Int)=some false
  | 0,i,h=>by
    rw [berthref20_LessTexts.l0,if_neg (by omega),berthref20_LessTexts.j1,if_neg (by simp),decide_eq_false (by omega)]
  | d+1,i,h=>by
    rw [show 2*(d+1)+2=(2*d+2)+1+1 by omega,berthref20_LessTexts.l0,if_pos (by omega),decide_eq_true (by omega),berthref20_LessTexts.j1,if_pos rfl,if_pos (by omega),if_pos (by omega),if_pos (by omega),if_pos rfl,show wrap64 ((i:Int)+1)=((i+1:Nat):Int) by rw [bZT _ (by omega) (by omega)];push_cast;rfl]
    exact hZB l hl d (i+1) (by omega)
theorem hZC (l:List Int) (hl:l.length≤140737488351232):∀ (d i:Nat),i+d=l.length→berthref20_LessNums.l0 (2*d+2) l l (i:Int)=some false
  | 0,i,h=>by
    rw [berthref20_LessNums.l0,if_neg (by omega),berthref20_LessNums.j1,if_neg (by simp),decide_eq_false (by omega)]
  | d+1,i,h=>by
    rw [show 2*(d+1)+2=(2*d+2)+1+1 by omega,berthref20_LessNums.l0,if_pos (by omega),decide_eq_true (by omega),berthref20_LessNums.j1,if_pos rfl,if_pos (by omega),if_pos (by omega),if_pos (by omega),if_pos rfl,show wrap64 ((i:Int)+1)=((i+1:Nat):Int) by rw [bZT _ (by omega) (by omega)];push_cast;rfl]
    exact hZC l hl d (i+1) (by omega)
theorem texts_y (w:World) (A B:Option Addr) (c d:Nat) (l:List ByteArray) (hl:l.length≤140737488351232) (h0:Kd.C Kd.string w A l.length l) (g0:l.length≤c) (h1:Kd.C Kd.string w B l.length l) (g1:l.length≤d) :
    Calls Try.prog 33 #[.slice A l.length c,.slice B l.length d] w fun e w'=>e=.returned (.bool true)∧Drawn0 w w' :=
  berthref20_sameTexts.calls (2 * l.length + 2) A c l B d l true w h0 g0 h1 g1 (by
    have h:=hZB l hl l.length 0 (Nat.zero_add _)
    rw [Int.ofNat_zero] at h
    unfold berthref20_sameTexts.f berthref20_LessTexts.f
    rw [h];rfl)
theorem nums_y (w:World) (A B:Option Addr) (c d:Nat) (l:List Int) (hl:l.length≤140737488351232) (h0:Kd.C (Kd.int .i64) w A l.length l) (g0:l.length≤c) (h1:Kd.C (Kd.int .i64) w B l.length l) (g1:l.length≤d) :
    Calls Try.prog 34 #[.slice A l.length c,.slice B l.length d] w fun e w'=>e=.returned (.bool true)∧Drawn0 w w' :=
  berthref20_sameNums.calls (2 * l.length + 2) A c l B d l true w h0 g0 h1 g1 (by
    have h:=hZC l hl l.length 0 (Nat.zero_add _)
    rw [Int.ofNat_zero] at h
    unfold berthref20_sameNums.f berthref20_LessNums.f
    rw [h];rfl)
theorem dZZ {α:Type} {e:Nat} {d:Kd α} {W:World} {A:Option Addr} {tl:List (List α)} (h:(Kd.slice e d).C W A tl.length tl) (p:Nat) (hp:p<tl.length) :
    ∃ ad,A=some ad∧∃ Ar cr,W.cell? (ad.add p)=some (.slice Ar (tl.getD p []).length cr)∧(tl.getD p []).length≤cr∧d.C W Ar (tl.getD p []).length (tl.getD p []):=by
  obtain ⟨ad,cs,he,-,⟨Ar,cr,rfl,hl,hC⟩,hc⟩:=Kd.C_get h [] (p:Int) (by omega) (by omega)
  have h0:=hc 0 _ rfl
  rw [Int.toNat_natCast] at h0 hl hC
  rw [show p*(Kd.slice e d).sz+0=p by simp [Kd.slice]] at h0
  exact ⟨ad,he,Ar,cr,h0,hl,hC⟩
theorem len_at {α:Type} {l:List (List α)} {M p:Nat} (h:∀ x∈l,x.length≤M) (hp:p<l.length):(l.getD p []).length≤M:=by
  rw [List.getD_eq_getElem?_getD,List.getElem?_eq_getElem hp]
  exact h _ (List.getElem_mem hp)
theorem fZG (w:World) (A0 A1 A2 A3 A4:Option Addr) (c0 c1 c2 c3 c4:Nat) (g:Pg) (B0 B1 B2 B3 B4:Option Addr) (e0 e1 e2 e3 e4:Nat) (hh:InPg w B0 B1 B2 B3 B4 e0 e1 e2 e3 e4 g) (hg:InPg w A0 A1 A2 A3 A4 c0 c1 c2 c3 c4 g) (f:Fits g) :
 Calls Try.prog 20 #[aZ6 A0 A1 A2 A3 A4 c0 c1 c2 c3 c4 g,aZ6 B0 B1 B2 B3 B4 e0 e1 e2 e3 e4 g] w fun e w'=>e=.returned (.bool true)∧Below w.heap.size w w':=by
 obtain ⟨p0,p1,p2⟩:=aZ5 w (.cells #[.slice A0 g.T.length c0,.slice A1 g.N.length c1,.slice A2 g.S.length c2,.slice A3 g.M.length c3,.slice A4 g.C.length c4,.int .i64 g.dep,.int .i64 g.loc] 28) (.cells #[.slice B0 g.T.length e0,.slice B1 g.N.length e1,.slice B2 g.S.length e2,.slice B3 g.M.length e3,.slice B4 g.C.length e4,.int .i64 g.dep,.int .i64 g.loc] 28)
 obtain ⟨l0,l1,l2,l3,l4,lS,lM⟩:=f
 unfold aZ6
 go_enter Try.func20,Try.ntmps20
 go_upto_region 1 with (fail)
 generalize (w.alloc (.cells #[.slice A0 g.T.length c0,.slice A1 g.N.length c1,.slice A2 g.S.length c2,.slice A3 g.M.length c3,.slice A4 g.C.length c4,.int .i64 g.dep,.int .i64 g.loc] 28)).alloc (.cells #[.slice B0 g.T.length e0,.slice B1 g.N.length e1,.slice B2 g.S.length e2,.slice B3 g.M.length e3,.slice B4 g.C.length e4,.int .i64 g.dep,.int .i64 g.loc] 28)=W at p0 p1 p2 ⊢
 have hA:=hg.below p2
 have hB:=hh.below p2
 have HW:=hid_ p2
 clear hg hh p2
 generalize w.heap.size+1=Y at p1 ⊢
 have HX:=hid_ (And.intro p0 p1)
 obtain ⟨x0,x1,x2,x3,x4,x5,x6⟩:=aZm p0
 obtain ⟨y0,y1,y2,y3,y4,y5,y6⟩:=aZm p1
 have hT:=texts_y W A0 B0 c0 e0 g.T l0 hA.T hA.lT hB.T hB.lT
 have hN:∀ n,Calls Try.prog 34 #[.slice A1 g.N.length c1,.slice B1 g.N.length e1] (W.drewN n) fun e w'=>e=.returned (.bool true)∧Drawn0 (W.drewN n) w':=fun n=>nums_y _ A1 B1 c1 e1 g.N l1 (Kd.C_below hA.N (aZb (Below.refl _ _) n)) hA.lN (Kd.C_below hB.N (aZb (Below.refl _ _) n)) hB.lN
 have HA:=hid_ hA
 have HB:=hid_ hB
 clear hA hB p0 p1
 go_wp2_with (first|(go_at_call 33;refine hT.mono ?_;rintro e W1 ⟨rfl,⟨n,rfl⟩⟩)|(go_at_call 34;refine (hN n).mono ?_;rintro e W1 ⟨rfl,⟨m,rfl⟩⟩))
 have q2:=aZb (Below.refl W.heap.size W) (n+m)
 have HX2:=hid_ (And.intro (aZc HX.out.1 q2) (aZc HX.out.2 q2))
 have HI2:=hid_ (And.intro (HA.out.below q2) (HB.out.below q2))
 have HW2:=hid_ (HW.out.trans (q2.mono HW.out.size))
 generalize W.drewN (n+m)=V at HX2 HI2 HW2 ⊢
 clear hT hN x0 x1 x2 x3 x4 x5 x6 y0 y1 y2 y3 y4 y5 y6 q2 HX HA HB HW
 go_loopw [5] (fun s5 wr=>∃ j:Nat,s5=.int .i64 j∧j≤g.S.length∧Below V.heap.size V wr) (fun s5 _=>g.S.length - (intOf s5).toNat)
 case atStart=>exact ⟨0,rfl,Nat.zero_le _,Below.refl _ _⟩
 case round =>
  obtain ⟨j,rfl,hj,hbw⟩:=hrel
  obtain ⟨x0,x1,x2,x3,x4,x5,x6⟩:=aZm (aZc HX2.out.1 hbw)
  obtain ⟨y0,y1,y2,y3,y4,y5,y6⟩:=aZm (aZc HX2.out.2 hbw)
  clear x0 x1 x3 x4 x5 x6 y0 y1 y3 y4 y5 y6
  by_cases hlt:j<g.S.length
  ·
   obtain ⟨ad,rfl,R1,d1,k0,k1,k2⟩:=dZZ (Kd.C_below HI2.out.1.S hbw) j hlt
   obtain ⟨ar,rfl,R2,d2,k3,k4,k5⟩:=dZZ (Kd.C_below HI2.out.2.S hbw) j hlt
   have hl:=len_at lS hlt
   generalize g.S.getD j []=lj at k0 k1 k2 k3 k4 k5 hl
   have HCALL:Hid (∀ W',Below wr.heap.size wr W'→Calls Try.prog 33 #[.slice R1 lj.length d1,.slice R2 lj.length d2] W' fun e w'=>e=.returned (.bool true)∧Below wr.heap.size wr w'):=fun W' hb=>(texts_y W' R1 R2 d1 d2 lj hl (Kd.C_below k2 hb) k1 (Kd.C_below k5 hb) k4).mono (fun e w' h=>⟨h.1,hb.trans ((Drawn0.below h.2).mono hb.size)⟩)
   have HSOF:Hid (∀ w',Below wr.heap.size wr w'→(w'.cell? ⟨w.heap.size,2,none⟩=some (.slice (some ad) g.S.length c2)∧w'.cell? ⟨Y,2,none⟩=some (.slice (some ar) g.S.length e2)∧w'.cell? (ad.add j)=some (.slice R1 lj.length d1)∧w'.cell? (ar.add j)=some (.slice R2 lj.length d2)∧Below wr.heap.size wr w')):=fun w' hb=>⟨aZe hb x2,aZe hb y2,aZe hb k0,aZe hb k3,hb⟩
   have HBB:=hid_ hbw
   have i0:(0:Int)≤(j:Int):=by omega
   have i1:(j:Int)<(g.S.length:Int):=by omega
   have hm1:g.S.length - (intOf (.int .i64 ((j:Int)+1))).toNat<g.S.length - (intOf (.int .i64 (j:Int))).toNat:=by simp [intOf];omega
   clear hbw k1 k2 k4 k5 hl
   go_upto_region 6 with (fail)
   go_region_held3 (fun w'=>w'.cell? ⟨w.heap.size,2,none⟩=some (.slice (some ad) g.S.length c2)∧w'.cell? ⟨Y,2,none⟩=some (.slice (some ar) g.S.length e2)∧w'.cell? (ad.add j)=some (.slice R1 lj.length d1)∧w'.cell? (ar.add j)=some (.slice R2 lj.length d2)∧Below wr.heap.size wr w') (first|assumption|exact HSOF.out _ (Below.refl _ _).drew) ((go_at_call 33;(with_reducible refine (HCALL.out _ (And.right (And.right (And.right (And.right (by assumption)))))).mono ?_);rintro e w1' ⟨rfl,bel1⟩;have hS1:=HSOF.out _ bel1))
   go_wp2_with (fail)
   go_roundw
   case rel=>exact ⟨j+1,by go_num,hlt,HBB.out.trans (bel1.mono HBB.out.size)⟩
   case measure=>exact hm1
  ·
   have hge:¬(j:Int)<(g.S.length:Int):=by omega
   obtain ⟨V1,hV⟩:∃ V',V'=wr:=⟨_,rfl⟩
   subst hV
   have HX3:=hid_ (And.intro (aZc HX2.out.1 hbw) (aZc HX2.out.2 hbw))
   have HI3:=hid_ (And.intro (HI2.out.1.below hbw) (HI2.out.2.below hbw))
   have HW3:=hid_ (HW2.out.trans (hbw.mono HW2.out.size))
   clear hlt hj hbw HX2 HI2 HW2
   have HX2:=HX3
   have HI2:=HI3
   have HW2:=HW3
   clear HX3 HI3 HW3
   go_wp2_with (fail)
   clear x2 y2 hge
   go_loopw [6] (fun s5 wr=>∃ j:Nat,s5=.int .i64 j∧j≤g.M.length∧Below V1.heap.size V1 wr) (fun s5 _=>g.M.length - (intOf s5).toNat)
   case atStart=>exact ⟨0,rfl,Nat.zero_le _,Below.refl _ _⟩
   case round =>
    obtain ⟨j,rfl,hj,hbw⟩:=hrel
    obtain ⟨x0,x1,x2,x3,x4,x5,x6⟩:=aZm (aZc HX2.out.1 hbw)
    obtain ⟨y0,y1,y2,y3,y4,y5,y6⟩:=aZm (aZc HX2.out.2 hbw)
    clear x0 x1 x2 x4 x5 x6 y0 y1 y2 y4 y5 y6
    by_cases hlt:j<g.M.length
    ·
     obtain ⟨ad,rfl,R1,d1,k0,k1,k2⟩:=dZZ (Kd.C_below HI2.out.1.M hbw) j hlt
     obtain ⟨ar,rfl,R2,d2,k3,k4,k5⟩:=dZZ (Kd.C_below HI2.out.2.M hbw) j hlt
     have hl:=len_at lM hlt
     generalize g.M.getD j []=lj at k0 k1 k2 k3 k4 k5 hl
     have HCALL:Hid (∀ W',Below wr.heap.size wr W'→Calls Try.prog 34 #[.slice R1 lj.length d1,.slice R2 lj.length d2] W' fun e w'=>e=.returned (.bool true)∧Below wr.heap.size wr w'):=fun W' hb=>(nums_y W' R1 R2 d1 d2 lj hl (Kd.C_below k2 hb) k1 (Kd.C_below k5 hb) k4).mono (fun e w' h=>⟨h.1,hb.trans ((Drawn0.below h.2).mono hb.size)⟩)
     have HSOF:Hid (∀ w',Below wr.heap.size wr w'→(w'.cell? ⟨w.heap.size,3,none⟩=some (.slice (some ad) g.M.length c3)∧w'.cell? ⟨Y,3,none⟩=some (.slice (some ar) g.M.length e3)∧w'.cell? (ad.add j)=some (.slice R1 lj.length d1)∧w'.cell? (ar.add j)=some (.slice R2 lj.length d2)∧Below wr.heap.size wr w')):=fun w' hb=>⟨aZe hb x3,aZe hb y3,aZe hb k0,aZe hb k3,hb⟩
     have HBB:=hid_ hbw
     have i0:(0:Int)≤(j:Int):=by omega
     have i1:(j:Int)<(g.M.length:Int):=by omega
     have hm1:g.M.length - (intOf (.int .i64 ((j:Int)+1))).toNat<g.M.length - (intOf (.int .i64 (j:Int))).toNat:=by simp [intOf];omega
     clear hbw k1 k2 k4 k5 hl
     go_upto_region 11 with (fail)
     go_region_held3 (fun w'=>w'.cell? ⟨w.heap.size,3,none⟩=some (.slice (some ad) g.M.length c3)∧w'.cell? ⟨Y,3,none⟩=some (.slice (some ar) g.M.length e3)∧w'.cell? (ad.add j)=some (.slice R1 lj.length d1)∧w'.cell? (ar.add j)=some (.slice R2 lj.length d2)∧Below wr.heap.size wr w') (first|assumption|exact HSOF.out _ (Below.refl _ _).drew) ((go_at_call 34;(with_reducible refine (HCALL.out _ (And.right (And.right (And.right (And.right (by assumption)))))).mono ?_);rintro e w1' ⟨rfl,bel1⟩;have hS1:=HSOF.out _ bel1))
     go_wp2_with (fail)
     go_roundw
     case rel=>exact ⟨j+1,by go_num,hlt,HBB.out.trans (bel1.mono HBB.out.size)⟩
     case measure=>exact hm1
    ·
     have hge:¬(j:Int)<(g.M.length:Int):=by omega
     obtain ⟨V2,hV⟩:∃ V',V'=wr:=⟨_,rfl⟩
     subst hV
     have HX3:=hid_ (And.intro (aZc HX2.out.1 hbw) (aZc HX2.out.2 hbw))
     have HI3:=hid_ (And.intro (HI2.out.1.below hbw) (HI2.out.2.below hbw))
     have HW3:=hid_ (HW2.out.trans (hbw.mono HW2.out.size))
     clear hlt hj hbw HX2 HI2 HW2
     have HX2:=HX3
     have HI2:=HI3
     have HW2:=HW3
     clear HX3 HI3 HW3
     go_wp2_with (fail)
     clear x3 y3 hge
     go_loopw [7] (fun s5 wr=>∃ j:Nat,s5=.int .i64 j∧j≤g.C.length∧Below V2.heap.size V2 wr) (fun s5 _=>g.C.length - (intOf s5).toNat)
     case atStart=>exact ⟨0,rfl,Nat.zero_le _,Below.refl _ _⟩
     case round =>
      obtain ⟨j,rfl,hj,hbw⟩:=hrel
      obtain ⟨x0,x1,x2,x3,x4,x5,x6⟩:=aZm (aZc HX2.out.1 hbw)
      obtain ⟨y0,y1,y2,y3,y4,y5,y6⟩:=aZm (aZc HX2.out.2 hbw)
      clear x0 x1 x2 x3 x5 x6 y0 y1 y2 y3 y5 y6
      by_cases hlt:j<g.C.length
      ·
       obtain ⟨ad,hA,a0,a1,a2,a3⟩:=eZY (Kd.C_below HI2.out.1.C hbw) (j:Int) (by omega) (by omega)
       obtain ⟨ar,hB,b0,b1,b2,b3⟩:=eZY (Kd.C_below HI2.out.2.C hbw) (j:Int) (by omega) (by omega)
       subst hA
       subst hB
       rw [Int.toNat_natCast] at a0 a1 a2 a3 b0 b1 b2 b3
       generalize aZi g.C (j:Int)=t at a0 a1 a2 a3 b0 b1 b2 b3
       have HSOF:Hid (∀ w',Below wr.heap.size wr w'→(w'.cell? ⟨w.heap.size,4,none⟩=some (.slice (some ad) g.C.length c4)∧w'.cell? ⟨Y,4,none⟩=some (.slice (some ar) g.C.length e4)∧w'.cell? (ad.add (j*4))=some (.int .i64 t.f0)∧w'.cell? ⟨(ad.add (j*4)).block,(ad.add (j*4)).off+1,none⟩=some (.int .i64 t.f1)∧w'.cell? ⟨(ad.add (j*4)).block,(ad.add (j*4)).off+2,none⟩=some (.int .i64 t.f2)∧w'.cell? ⟨(ad.add (j*4)).block,(ad.add (j*4)).off+3,none⟩=some (.int .i64 t.f3)∧w'.cell? (ar.add (j*4))=some (.int .i64 t.f0)∧w'.cell? ⟨(ar.add (j*4)).block,(ar.add (j*4)).off+1,none⟩=some (.int .i64 t.f1)∧w'.cell? ⟨(ar.add (j*4)).block,(ar.add (j*4)).off+2,none⟩=some (.int .i64 t.f2)∧w'.cell? ⟨(ar.add (j*4)).block,(ar.add (j*4)).off+3,none⟩=some (.int .i64 t.f3)∧Below wr.heap.size wr w')):=fun w' hb=>⟨aZe hb x4,aZe hb y4,aZe hb a0,aZe hb a1,aZe hb a2,aZe hb a3,aZe hb b0,aZe hb b1,aZe hb b2,aZe hb b3,hb⟩
       have HBB:=hid_ hbw
       have i0:(0:Int)≤(j:Int):=by omega
       have i1:(j:Int)<(g.C.length:Int):=by omega
       have hm1:g.C.length - (intOf (.int .i64 ((j:Int)+1))).toNat<g.C.length - (intOf (.int .i64 (j:Int))).toNat:=by simp [intOf];omega
       clear hbw
       go_upto_region 16 with (fail)
       go_region_held3 (fun w'=>w'.cell? ⟨w.heap.size,4,none⟩=some (.slice (some ad) g.C.length c4)∧w'.cell? ⟨Y,4,none⟩=some (.slice (some ar) g.C.length e4)∧w'.cell? (ad.add (j*4))=some (.int .i64 t.f0)∧w'.cell? ⟨(ad.add (j*4)).block,(ad.add (j*4)).off+1,none⟩=some (.int .i64 t.f1)∧w'.cell? ⟨(ad.add (j*4)).block,(ad.add (j*4)).off+2,none⟩=some (.int .i64 t.f2)∧w'.cell? ⟨(ad.add (j*4)).block,(ad.add (j*4)).off+3,none⟩=some (.int .i64 t.f3)∧w'.cell? (ar.add (j*4))=some (.int .i64 t.f0)∧w'.cell? ⟨(ar.add (j*4)).block,(ar.add (j*4)).off+1,none⟩=some (.int .i64 t.f1)∧w'.cell? ⟨(ar.add (j*4)).block,(ar.add (j*4)).off+2,none⟩=some (.int .i64 t.f2)∧w'.cell? ⟨(ar.add (j*4)).block,(ar.add (j*4)).off+3,none⟩=some (.int .i64 t.f3)∧Below wr.heap.size wr w') (first|assumption|exact HSOF.out _ (Below.refl _ _).drew) (fail)
       go_wp2_with (fail)
       go_roundw
       case rel=>exact ⟨j+1,by go_num,hlt,HBB.out.drew⟩
       case measure=>exact hm1
      ·
       have hge:¬(j:Int)<(g.C.length:Int):=by omega
       have HBB:=hid_ hbw
       clear hbw hlt
       go_wp2_with (fail)
       go_ret
       exact ⟨rfl,HW2.out.trans (HBB.out.mono HW2.out.size)⟩
end Go.Proofs.Ytbnplhmmbnmagaa.D
