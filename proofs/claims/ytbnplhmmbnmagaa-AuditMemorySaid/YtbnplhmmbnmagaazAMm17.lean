/- The audit's walks: bZ9. -/
import Derived.Test.YtbnplhmmbnmagaazAMm11
import Derived.Test.YtbnplhmmbnmagaazAMm15
set_option maxHeartbeats 4000000
set_option maxRecDepth 100000
set_option linter.all false
namespace Go.Proofs.Ytbnplhmmbnmagaa.D
open Go.RowKit Go.Proofs.YtbnplhmmbnmagaaW.PrintWords Go.Proofs.YtbnplhmmbnmagaaW.PrintLast Go.Proofs.YtbnplhmmbnmagaaW.PrintMore Go.Proofs.Ytbnplhmmbnmagaa.All
noncomputable def aZt (g:Pg):Except (Int × Int) (List (List Int) × Int):=aZT g.T.length g.N.length g.S.length g.M.length g.C g.dep g.loc
abbrev zPg:Value:=.agg #[.slice none 0 0,.slice none 0 0,.slice none 0 0,.slice none 0 0,.slice none 0 0,.int .i64 0,.int .i64 0]
noncomputable def aZE (bs:List Int):Except (Int × Int) (Pg × Int) :=
  match aZJ bs with
  | .error (k,q)=>.error (q,k)
  | .ok (g,_)=>match aZt g with
    | .error f=>.error f
    | .ok (_,most)=>.ok (g,most)
theorem cZJ {bs:List Int} {k q:Int} (h:aZJ bs=.error (k,q)):aZE bs=.error (q,k):=by unfold aZE;rw [h]
theorem cZK {bs:List Int} {g:Pg} {q:Int} {f:Int × Int} (h:aZJ bs=.ok (g,q)) (h2:aZt g=.error f):aZE bs=.error f:=by unfold aZE;rw [h];dsimp only;rw [h2]
theorem cZI {bs:List Int} {g:Pg} {q:Int} {told:List (List Int)} {most:Int} (h:aZJ bs=.ok (g,q)) (h2:aZt g=.ok (told,most)):aZE bs=.ok (g,most):=by unfold aZE;rw [h];dsimp only;rw [h2]
def BytesEnd (w:World) (r:Except (Int × Int) (Pg × Int)) (e:Ending) (w':World):Prop :=
  match r with
  | .error (i,n)=>∃ F,e=.returned (.tuple #[zPg,.agg #[.int .i64 0,.int .i64 0],.iface 95 (.pointer (some ⟨F,0,none⟩))])∧w.heap.size≤F∧w'.heap[F]?=some (.cells #[.int .i64 n,.int .i64 i,.string ⟨#[]⟩,.nilIface] 98 (0,0))∧Below w.heap.size w w'
  | .ok (g,most)=>∃ v,e=.returned (.tuple #[v,.agg #[.int .i64 most,.int .i64 g.C.length],.nilIface])∧IsPg w.heap.size g v w'∧Below w.heap.size w w'
theorem results18 (tmps:Array Value) (w:World) (P Q:Nat) (cs:Array Value) (a b ev:Value) (h2:tmps.getD 2 undef=.pointer (some ⟨P,0,none⟩)) (h3:tmps.getD 3 undef=.pointer (some ⟨Q,0,none⟩)) (h4:tmps.getD 4 undef=ev) (hP:w.heap[P]?=some (.cells cs 28 (0,0))) (hcs:cs.size=7) (hQ:w.heap[Q]?=some (.cells #[a,b] 31 (0,0))) :
    (results Try.f18 tmps).run Try.prog w=.ok (.tuple #[.agg cs,.agg #[a,b],ev]) w:=by
  have hl:=run_loadVar_row (P:=Try.prog) w P 28 28 cs (0,0) _ hP Try.underlying28 rfl (by rw [hcs];kernel_rfl)
  have hm:=run_loadVar_row (P:=Try.prog) w Q 31 31 #[a,b] (0,0) _ hQ Try.underlying31 rfl (by kernel_rfl)
  have h2':tmps[2]?.getD undef=.pointer (some ⟨P,0,none⟩):=by simpa using h2
  have h3':tmps[3]?.getD undef=.pointer (some ⟨Q,0,none⟩):=by simpa using h3
  have h4':tmps[4]?.getD undef=ev:=by simpa using h4
  simp [results,Try.results18,h2',h3',h4',asAddr,hl,hm]
def set9 (W:World) (Z Y:Nat) (a b c d e f g x y:Value):World:=((setZ W Z a b c d e f g).setCell ⟨Y,0,none⟩ x).setCell ⟨Y,1,none⟩ y
theorem fZF {w W:World} {Z Y:Nat} (hB:Below w.heap.size w W) (hZ:w.heap.size≤Z) (hY:w.heap.size≤Y) (hne:Y≠Z) (h7:∃ x0 x1 x2 x3 x4 x5 x6,W.heap[Z]?=some (.cells #[x0,x1,x2,x3,x4,x5,x6] 28 (0,0))) (h2:∃ x0 x1,W.heap[Y]?=some (.cells #[x0,x1] 31 (0,0))) (a b c d e f g x y:Value) :
 (set9 W Z Y a b c d e f g x y).heap[Z]?=some (.cells #[a,b,c,d,e,f,g] 28 (0,0))∧(set9 W Z Y a b c d e f g x y).heap[Y]?=some (.cells #[x,y] 31 (0,0))∧(∀ k,k≠Z→k≠Y→(set9 W Z Y a b c d e f g x y).heap[k]?=W.heap[k]?)∧Below w.heap.size w (set9 W Z Y a b c d e f g x y):=by
 obtain ⟨y0,y1,h2⟩:=h2
 refine ⟨?_,?_,fun k h1 h3=>?_,?_⟩
 ·
  unfold set9
  rw [dZX _ _ _ _ _ (Ne.symm hne)]
  exact cZ5 _ _ _ _ _ _ _ _ _ h7
 · exact eZz _ _ _ _ ⟨y0,y1,(cZe _ _ _ _ _ _ _ _ _ _ hne).trans h2⟩
 ·
  unfold set9
  rw [dZX _ _ _ _ _ h3,cZe _ _ _ _ _ _ _ _ _ _ h1]
 ·
  unfold set9 setZ
  exact ((((((((hB.setCell hZ _).setCell hZ _).setCell hZ _).setCell hZ _).setCell hZ _).setCell hZ _).setCell hZ _).setCell hY _).setCell hY _
theorem IsPg.below_ {base:Nat} {g:Pg} {v:Value} {w w2:World} (h:IsPg base g v w) (hb:Below w.heap.size w w2):IsPg base g v w2:=by
  obtain ⟨a,b,c,d,e,h0,h1,h2,h3,h4,h5⟩:=h
  exact ⟨a,b,c,d,e,h0,Kd.R_below h1 hb,Kd.R_below h2 hb,Kd.R_below h3 hb,Kd.R_below h4 hb,Kd.R_below h5 hb⟩
theorem IsPg.far {b b2:Nat} {g:Pg} {v:Value} {W W2:World} (h:IsPg b g v W) (hb:b2≤b) (t:∀ k,b≤k→W2.heap[k]?=W.heap[k]?):IsPg b2 g v W2:=by
  have far:∀ {α:Type} {d:Kd α} {t:Nat} {v:Value} {l:List α},d.R t W b (fun _=>True) v l→d.R t W2 b2 (fun _=>True) v l:=fun hv =>
    Kd.R_mono (Kd.R_lower (Kd.R_step (Kd.R_bound hv) (fun k hk _=>t k hk.2.1)) hb) (fun _ _=>trivial)
  obtain ⟨a,b,c,d,e,h0,h1,h2,h3,h4,h5⟩:=h
  exact ⟨a,b,c,d,e,h0,far h1,far h2,far h3,far h4,far h5⟩
theorem gZJ (w:World) (A:Option Addr) (c:Nat) (bs:List Int) (hC:Kd.C (Kd.int .u8) w A bs.length bs) (hc:bs.length≤c) (G:Good bs) :
 Calls Try.prog 18 #[.slice A bs.length c] w (BytesEnd w (aZE bs)):=by
 generalize hW0:((w.alloc (.cells #[.slice none 0 0,.slice none 0 0,.slice none 0 0,.slice none 0 0,.slice none 0 0,.int .i64 0,.int .i64 0] 28)).alloc (.cells #[.int .i64 0,.int .i64 0] 31))=W0
 have hb0:Below w.heap.size w W0:=by rw [←hW0];exact aZa (aZa (Below.refl _ _) _) _
 have hs0:W0.heap.size=w.heap.size+2:=by rw [←hW0];simp
 have hp0:W0.heap[w.heap.size]?=some (.cells #[.slice none 0 0,.slice none 0 0,.slice none 0 0,.slice none 0 0,.slice none 0 0,.int .i64 0,.int .i64 0] 28 (0,0)):=by
  rw [←hW0,heap_alloc_old _ _ (by simp)];exact heap_alloc_new w _
 have hq0:W0.heap[w.heap.size+1]?=some (.cells #[.int .i64 0,.int .i64 0] 31 (0,0)):=by
  rw [←hW0]
  have:=heap_alloc_new (w.alloc (.cells #[.slice none 0 0,.slice none 0 0,.slice none 0 0,.slice none 0 0,.slice none 0 0,.int .i64 0,.int .i64 0] 28)) (.cells #[.int .i64 0,.int .i64 0] 31)
  simpa using this
 have HD:=iZh W0 A c bs (Kd.C_below hC hb0) hc G
 have HB:=hid_ hb0
 have HW0:=hid_ hW0
 clear hb0 hW0 hC
 generalize hres:aZE bs=res
 have HRES:=hid_ hres
 clear hres
 go_enter Try.func18,Try.ntmps18
 go_wp2_with (fail)
 rw [HW0.out]
 clear HW0
 refine HD.mono ?_
 intro e W1 hd
 clear HD
 unfold IsDec at hd
 cases hpr:aZJ bs with
 | error f =>
  obtain ⟨k,q⟩:=f
  rw [hpr] at hd
  obtain ⟨F,rfl,hF,hFc,hb1⟩:=hd
  have hp1:=(hb1.block (w.heap.size) (by omega)).trans hp0
  have hq1:=(hb1.block (w.heap.size+1) (by omega)).trans hq0
  have hsz:=hb1.size
  have HPR:=hid_ (HRES.out.symm.trans (cZJ hpr))
  clear hp0 hq0 hpr HRES
  go_upto_region 2 with (fail)
  have hbV:=aZa (Below.refl W1.heap.size W1) (.cells #[.slice none 0 0,.slice none 0 0,.slice none 0 0,.slice none 0 0,.slice none 0 0,.int .i64 0,.int .i64 0] 28)
  have hpV:=(hbV.block w.heap.size (by omega)).trans hp1
  have hqV:=(hbV.block (w.heap.size+1) (by omega)).trans hq1
  have hFV:=(hbV.block F (aZd hFc)).trans hFc
  have hBV:=(HB.out.trans (hb1.mono HB.out.size)).trans (hbV.mono (by omega))
  clear hp1 hq1 hb1 hFc hbV
  generalize (W1.alloc (.cells #[.slice none 0 0,.slice none 0 0,.slice none 0 0,.slice none 0 0,.slice none 0 0,.int .i64 0,.int .i64 0] 28))=V at hpV hqV hFV hBV ⊢
  have hsa:=fZF hBV (Nat.le_refl _) (Nat.le_add_right w.heap.size 1) (by omega) ⟨_,_,_,_,_,_,_,hpV⟩ ⟨_,_,hqV⟩ (.slice none 0 0) (.slice none 0 0) (.slice none 0 0) (.slice none 0 0) (.slice none 0 0) (.int .i64 0) (.int .i64 0) (.int .i64 0) (.int .i64 0)
  have HSA:=hid_ hsa
  have HFV:=hid_ hFV
  obtain ⟨p0,p1,p2,p3,p4,p5,p6⟩:=iZl hpV
  have z0:∀ i,V.frozen? ⟨w.heap.size,i,none⟩=false:=fun i=>by simp [World.frozen?,hpV]
  have q0:V.cell? ⟨w.heap.size+1,0,none⟩=some (.int .i64 0):=by simp [World.cell?,hqV]
  have q1:V.cell? ⟨w.heap.size+1,1,none⟩=some (.int .i64 0):=by simp [World.cell?,hqV]
  have y0:∀ i,V.frozen? ⟨w.heap.size+1,i,none⟩=false:=fun i=>by simp [World.frozen?,hqV]
  clear hpV hqV hFV hBV hsa
  go_wp2_with (fail)
  obtain ⟨t1,t2,t3,t4⟩:=HSA.out
  rw [HPR.out]
  exact bodyPost_ret (results18 _ _ w.heap.size (w.heap.size+1) _ _ _ _ rfl rfl rfl t1 rfl t2) rfl ⟨F,rfl,by omega,(t3 F (by omega) (by omega)).trans HFV.out,t4⟩
 | ok gq =>
  obtain ⟨g,q⟩:=gq
  obtain ⟨hform,-⟩:=dZh bs G.byte g q hpr
  have fg:=dZA g hform
  rw [hpr] at hd
  obtain ⟨v,rfl,hp,hb1⟩:=hd
  obtain ⟨D0,D1,D2,D3,D4,d0,d1,d2,d3,d4,rfl,hK⟩:=hp.read
  have hp1:=(hb1.block (w.heap.size) (by omega)).trans hp0
  have hq1:=(hb1.block (w.heap.size+1) (by omega)).trans hq0
  have hsz:=hb1.size
  have HPR:=hid_ hpr
  clear hp0 hq0 hpr hform
  unfold aZ6
  go_upto_region 2 with (fail)
  have hbV:=aZa (Below.refl W1.heap.size W1) (.cells #[.slice D0 g.T.length d0,.slice D1 g.N.length d1,.slice D2 g.S.length d2,.slice D3 g.M.length d3,.slice D4 g.C.length d4,.int .i64 g.dep,.int .i64 g.loc] 28)
  have hpV:=(hbV.block w.heap.size (by omega)).trans hp1
  have hqV:=(hbV.block (w.heap.size+1) (by omega)).trans hq1
  have hxV:=heap_alloc_new W1 (.cells #[.slice D0 g.T.length d0,.slice D1 g.N.length d1,.slice D2 g.S.length d2,.slice D3 g.M.length d3,.slice D4 g.C.length d4,.int .i64 g.dep,.int .i64 g.loc] 28)
  have hBV:=(HB.out.trans (hb1.mono HB.out.size)).trans (hbV.mono (by omega))
  have hpg:=IsPg.below_ hp hbV
  have hKV:=hK.below hbV
  clear hp1 hq1 hb1 hbV hp hK
  generalize (W1.alloc (.cells #[.slice D0 g.T.length d0,.slice D1 g.N.length d1,.slice D2 g.S.length d2,.slice D3 g.M.length d3,.slice D4 g.C.length d4,.int .i64 g.dep,.int .i64 g.loc] 28))=V at hpV hqV hxV hBV hpg hKV ⊢
  generalize W1.heap.size=X at hxV hsz ⊢
  obtain ⟨x0,x1,x2,x3,x4,x5,x6⟩:=iZl hxV
  have HP:=eZo V D0 D1 D2 D3 D4 d0 d1 d2 d3 d4 g.T.length g.N.length g.S.length g.M.length g.C g.dep g.loc hKV.C hKV.lC (by have:=fg.T;omega) (by have:=fg.N;omega) (by have:=fg.S;omega) (by have:=fg.M;omega) (by have:=fg.C;omega)
  have HPG:=hid_ hpg
  have HP2:=hid_ hpV
  have HQ2:=hid_ hqV
  have HX2:=hid_ hxV
  have HB2:=hid_ hBV
  clear hpg hpV hqV hxV hBV hKV fg
  go_wp2_with (fail)
  refine HP.mono ?_
  intro e W3 h3
  clear HP
  cases ha:aZT g.T.length g.N.length g.S.length g.M.length g.C g.dep g.loc with
  | error f =>
   obtain ⟨i,n⟩:=f
   rw [ha] at h3
   obtain ⟨F,rfl,hF,hFc,hb3⟩:=h3
   have HR2:=hid_ (HRES.out.symm.trans (cZK HPR.out ha))
   clear ha HPR HRES HPG x0 x1 x2 x3 x4 x5 x6
   go_upto_region 5 with (fail)
   have hbU:=aZa (Below.refl W3.heap.size W3) (.cells #[.int .i64 0,.int .i64 0] 31)
   have hpU:=(hbU.block w.heap.size (by have:=hb3.size;have:=aZd HP2.out;omega)).trans ((hb3.block w.heap.size (aZd HP2.out)).trans HP2.out)
   have hqU:=(hbU.block (w.heap.size+1) (by have:=hb3.size;have:=aZd HQ2.out;omega)).trans ((hb3.block (w.heap.size+1) (aZd HQ2.out)).trans HQ2.out)
   have hFU:=(hbU.block F (aZd hFc)).trans hFc
   have hBU:=(HB2.out.trans (hb3.mono HB2.out.size)).trans (hbU.mono (by have:=hb3.size;have:=HB2.out.size;omega))
   have nF:w.heap.size+1<F:=by have:=aZd HQ2.out;omega
   clear hFc hb3 hbU
   generalize (W3.alloc (.cells #[.int .i64 0,.int .i64 0] 31))=U at hpU hqU hFU hBU ⊢
   have HSA:=hid_ (fZF hBU (Nat.le_refl _) (Nat.le_add_right w.heap.size 1) (by omega) ⟨_,_,_,_,_,_,_,hpU⟩ ⟨_,_,hqU⟩ (.slice none 0 0) (.slice none 0 0) (.slice none 0 0) (.slice none 0 0) (.slice none 0 0) (.int .i64 0) (.int .i64 0) (.int .i64 0) (.int .i64 0))
   have HFU:=hid_ hFU
   obtain ⟨p0,p1,p2,p3,p4,p5,p6⟩:=iZl hpU
   have z0:∀ i,U.frozen? ⟨w.heap.size,i,none⟩=false:=fun i=>by simp [World.frozen?,hpU]
   have q0:U.cell? ⟨w.heap.size+1,0,none⟩=some (.int .i64 0):=by simp [World.cell?,hqU]
   have q1:U.cell? ⟨w.heap.size+1,1,none⟩=some (.int .i64 0):=by simp [World.cell?,hqU]
   have y0:∀ i,U.frozen? ⟨w.heap.size+1,i,none⟩=false:=fun i=>by simp [World.frozen?,hqU]
   clear hpU hqU hFU hBU
   go_wp2_with (fail)
   obtain ⟨t1,t2,t3,t4⟩:=HSA.out
   rw [HR2.out]
   exact bodyPost_ret (results18 _ _ w.heap.size (w.heap.size+1) _ _ _ _ rfl rfl rfl t1 rfl t2) rfl ⟨F,rfl,by omega,(t3 F (by omega) (by omega)).trans HFU.out,t4⟩
  | ok tm =>
   obtain ⟨told,most⟩:=tm
   rw [ha] at h3
   obtain ⟨rfl,hb3⟩:=h3
   have HR2:=hid_ (HRES.out.symm.trans (cZI HPR.out ha))
   have hpg:=IsPg.below_ HPG.out hb3
   clear ha HPR HRES HPG x0 x1 x2 x3 x4 x5 x6
   go_upto_region 5 with (fail)
   have hbU:=aZa (Below.refl W3.heap.size W3) (.cells #[.int .i64 most,.int .i64 g.C.length] 31)
   have hpU:=(hbU.block w.heap.size (by have:=hb3.size;have:=aZd HP2.out;omega)).trans ((hb3.block w.heap.size (aZd HP2.out)).trans HP2.out)
   have hqU:=(hbU.block (w.heap.size+1) (by have:=hb3.size;have:=aZd HQ2.out;omega)).trans ((hb3.block (w.heap.size+1) (aZd HQ2.out)).trans HQ2.out)
   have hxU:=(hbU.block X (by have:=hb3.size;have:=aZd HX2.out;omega)).trans ((hb3.block X (aZd HX2.out)).trans HX2.out)
   have hyU:=heap_alloc_new W3 (.cells #[.int .i64 most,.int .i64 g.C.length] 31)
   have hBU:=(HB2.out.trans (hb3.mono HB2.out.size)).trans (hbU.mono (by have:=hb3.size;have:=HB2.out.size;omega))
   have hpgU:=IsPg.below_ hpg hbU
   have nX:w.heap.size+1<X:=by omega
   have nY:X<W3.heap.size:=by have:=hb3.size;have:=aZd HX2.out;omega
   clear hb3 hbU hpg
   generalize (W3.alloc (.cells #[.int .i64 most,.int .i64 g.C.length] 31))=U at hpU hqU hxU hyU hBU hpgU ⊢
   generalize W3.heap.size=Y at hyU nY ⊢
   have HSA:=hid_ (fZF hBU (Nat.le_refl _) (Nat.le_add_right w.heap.size 1) (by omega) ⟨_,_,_,_,_,_,_,hpU⟩ ⟨_,_,hqU⟩ (.slice D0 g.T.length d0) (.slice D1 g.N.length d1) (.slice D2 g.S.length d2) (.slice D3 g.M.length d3) (.slice D4 g.C.length d4) (.int .i64 g.dep) (.int .i64 g.loc) (.int .i64 most) (.int .i64 g.C.length))
   have HPU:=hid_ hpgU
   obtain ⟨p0,p1,p2,p3,p4,p5,p6⟩:=iZl hpU
   obtain ⟨x0,x1,x2,x3,x4,x5,x6⟩:=iZl hxU
   have u0:U.cell? ⟨Y,0,none⟩=some (.int .i64 most):=by simp [World.cell?,hyU]
   have u1:U.cell? ⟨Y,1,none⟩=some (.int .i64 g.C.length):=by simp [World.cell?,hyU]
   have z0:∀ i,U.frozen? ⟨w.heap.size,i,none⟩=false:=fun i=>by simp [World.frozen?,hpU]
   have q0:U.cell? ⟨w.heap.size+1,0,none⟩=some (.int .i64 0):=by simp [World.cell?,hqU]
   have q1:U.cell? ⟨w.heap.size+1,1,none⟩=some (.int .i64 0):=by simp [World.cell?,hqU]
   have y0:∀ i,U.frozen? ⟨w.heap.size+1,i,none⟩=false:=fun i=>by simp [World.frozen?,hqU]
   have nx0:X≠w.heap.size:=by omega
   have nx1:X≠w.heap.size+1:=by omega
   have ny0:Y≠w.heap.size:=by omega
   have ny1:Y≠w.heap.size+1:=by omega
   clear hpU hqU hxU hyU hBU hpgU
   go_upto_region 7 with (fail)
   go_region_with (skip)
   all_goals go_wp2_with (fail)
   all_goals
    change bodyPost _ _ _ _ _ ((set9 U w.heap.size (w.heap.size+1) (.slice D0 g.T.length d0) (.slice D1 g.N.length d1) (.slice D2 g.S.length d2) (.slice D3 g.M.length d3) (.slice D4 g.C.length d4) (.int .i64 g.dep) (.int .i64 g.loc) (.int .i64 most) (.int .i64 g.C.length)).drew)
    obtain ⟨t1,t2,t3,t4⟩:=HSA.out
    have t5:=(HPU.out.far (b2:=w.heap.size) (by omega) (fun k hk=>t3 k (by omega) (by omega))).drew
    have t6:=t4.drew
    have H5:=hid_ (And.intro t5 t6)
    clear t3 t4 t5 t6 HSA HPU
    generalize set9 U w.heap.size (w.heap.size+1) (.slice D0 g.T.length d0) (.slice D1 g.N.length d1) (.slice D2 g.S.length d2) (.slice D3 g.M.length d3) (.slice D4 g.C.length d4) (.int .i64 g.dep) (.int .i64 g.loc) (.int .i64 most) (.int .i64 g.C.length)=S9 at t1 t2 H5 ⊢
    have t1d:S9.drew.heap[w.heap.size]?=_:=t1
    have t2d:S9.drew.heap[w.heap.size+1]?=_:=t2
    refine bodyPost_ret (w:=S9.drew) (results18 _ S9.drew w.heap.size (w.heap.size+1) _ _ _ .nilIface ?_ ?_ ?_ t1d rfl t2d) ?_ ?_
    · kernel_rfl
    · kernel_rfl
    · kernel_rfl
    · kernel_rfl
    ·
     rw [HR2.out]
     exact ⟨_,rfl,H5.out.1,H5.out.2⟩
end Go.Proofs.Ytbnplhmmbnmagaa.D
