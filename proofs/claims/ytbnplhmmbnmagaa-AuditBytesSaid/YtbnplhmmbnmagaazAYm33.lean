/- The document's audit: a place more that jumps to another: into[a] = append(into[a], i), in the heap. -/
import Derived.Test.YtbnplhmmbnmagaazAYm32
import Derived.Test.YtbnplhmmbnmagaazAYm30
import Derived.Test.YtbnplhmmbnmagaazAYm8
import Derived.Test.YtbnplhmmbnmagaazAYm29
import Derived.Test.YtbnplhmmbnmagaazAYm31
set_option maxHeartbeats 4000000
set_option maxRecDepth 100000
set_option linter.unusedVariables false
set_option linter.unusedSimpArgs false
namespace Go.Proofs.Ytbnplhmmbnmagaa.D
open Go.RowKit Go.Proofs.YtbnplhmmbnmagaaW.PrintWords Go.Proofs.YtbnplhmmbnmagaaW.PrintLast Go.Proofs.YtbnplhmmbnmagaaW.PrintMore Go.Proofs.Ytbnplhmmbnmagaa.All
theorem into_push {W:World} {base gi n ci:Nat} {I:Nat→Prop} {into:List (List Int)} (h:Kd.S kIn 23 W base I (.slice (some ⟨gi,0,none⟩) n ci) into) (A:Nat) (hA:A<n) :
    ∃ (oki:Nat→Prop) (Au:Option Addr) (cu:Nat),W.cell? ⟨gi,A,none⟩=some (.slice Au (into.getD A []).length cu)∧W.frozen? ⟨gi,A,none⟩=false∧(Kd.int .i64).R 3 W base oki (.slice Au (into.getD A []).length cu) (into.getD A [])∧I gi∧gi<W.heap.size∧(∃ cells,W.heap[gi]?=some (.cells cells 23 (0,0))) ∧
      (∀ k,(Value.slice Au (into.getD A []).length cu).ownBlock=some k→I k∧∃ cells,W.heap[k]?=some (.cells cells 3 (0,0))) ∧
      ∀ (Wa w1:World) (v1:Value) (l':List Int),Below W.heap.size W Wa→(Kd.int .i64).R 3 w1 base (fun k=>oki k∨Wa.heap.size≤k) v1 l'→Wa.grownBy w1 (Value.slice Au (into.getD A []).length cu).ownBlock →
        Kd.S kIn 23 (w1.setCell ⟨gi,A,none⟩ v1) base (fun k=>I k∨W.heap.size≤k) (.slice (some ⟨gi,0,none⟩) n ci) (into.set A l'):=by
  have hn:=(Kd.S_reads' h).1
  obtain ⟨g',cap',hv,-,hglt,cells,hcells⟩:=Kd.S_form h (by omega)
  injection hv with hv _ _
  injection hv with hv
  injection hv with hv _ _
  subst hv
  have hIg:I gi:=(Kd.S_R h).1 gi rfl
  obtain ⟨oki0,c0,-,hM0,hcc0,hfr0,hoki0,-⟩:=Kd.S_elem h [] (A:Int) (by omega) (by omega)
  have h':=Kd.S_mono (ok':=fun k=>I k∨W.heap.size≤k) h (fun _ hk=>.inl hk)
  obtain ⟨oki,c,hcl,hM,hcc,hfr,hoki,hH⟩:=Kd.S_elem h' [] (A:Int) (by omega) (by omega)
  rw [Int.toNat_natCast] at hM hcc hfr hM0 hcc0
  obtain ⟨u,rfl,hR⟩:=hM
  obtain ⟨u0,rfl,hR0⟩:=hM0
  have hcu:=hcc 0 u rfl
  have hcu0:=hcc0 0 u0 rfl
  have hfu:=hfr 0
  rw [show A*kIn.sz+0=A by simp [kIn,Kd.slice]] at hcu hfu hcu0
  rw [hcu] at hcu0
  injection hcu0 with hcu0
  subst hcu0
  obtain ⟨Au,cu,rfl⟩:=Kd.R_slice hR
  refine ⟨oki,Au,cu,hcu,hfu,hR,hIg,hglt,⟨cells,hcells⟩,fun k hk=>⟨(hoki0 k (hR0.1 k hk)).1,bZg (Kd.R_own hR).choose_spec k hk⟩,?_⟩
  intro Wa w1 v1 l' hb hR1 hg
  have hrow:∀ k,(Value.slice Au (into.getD A []).length cu).ownBlock=some k→oki k:=fun k hk=>hR.1 k hk
  have hge:some gi≠(Value.slice Au (into.getD A []).length cu).ownBlock:=fun e=>by
    obtain ⟨cells3,hc3⟩:=bZg (Kd.R_own hR).choose_spec gi e.symm
    rw [hcells] at hc3
    cases hc3
  have hgw1:w1.heap[gi]?=some (.cells cells 23 (0,0)):=(hg.block gi (Nat.lt_of_lt_of_le hglt hb.size) hge).trans ((hb.block gi hglt).trans hcells)
  have hH1:=Kd.H_grown (Kd.H_widen (Kd.H_below hH hb)) hg (fun k hk=>.inl (hrow k hk))
  obtain ⟨q0,q1,hv1⟩:∃ q0 q1,v1=.slice q0 q1 0∨True:=⟨none,0,.inr trivial⟩
  obtain ⟨A1,c1,rfl⟩:=Kd.R_slice hR1
  obtain ⟨hH2,-⟩:=Kd.H_seg hH1 (by omega) (by omega) (seg:=[.slice A1 l'.length c1]) (j:=0) (by simp [kIn,Kd.slice]) (by intro q hq;rw [List.mem_singleton.1 hq];rfl)
  have hfin:(Kd.int .i64).R 3 (w1.setCell ⟨gi,A,none⟩ (.slice A1 l'.length c1)) base (fun k=>oki k∨Wa.heap.size≤k) (.slice A1 l'.length c1) l':=Kd.R_set hR1 hgw1 (by decide) A _
  have he:w1.setCells gi ((A:Int).toNat*kIn.sz+0) [.slice A1 l'.length c1]=w1.setCell ⟨gi,A,none⟩ (.slice A1 l'.length c1):=by
    rw [show (A:Int).toNat*kIn.sz+0=A by simp [kIn,Kd.slice]]
    rfl
  rw [he] at hH2
  have hback:=Kd.H_back (x':=l') (okp:=fun k=>oki k∨Wa.heap.size≤k) hH2 ⟨.slice A1 l'.length c1,by simp,hfin⟩ (fun k hk=>hk.elim .inl (fun hk=>.inr ⟨.inr (Nat.le_trans hb.size hk),hk⟩))
  rw [Int.toNat_natCast] at hback
  exact hback
theorem dZE {W W2:World} {b j:Nat} (h:W2.heap[b]?=W.heap[b]?):W2.cell? ⟨b,j,none⟩=W.cell? ⟨b,j,none⟩:=by simp [World.cell?,h]
theorem froz_same {W W2:World} {b j:Nat} (h:W2.heap[b]?=W.heap[b]?):W2.frozen? ⟨b,j,none⟩=W.frozen? ⟨b,j,none⟩:=by simp [World.frozen?,h]
def walk.T34:Bool × List (List Nat × List Nat):=(true,[([],[]),([],[]),([1],[1]),([],[]),([],[]),([4],[4]),([3,5],[3,5]),([6],[6]),([],[]),([8],[8]),([7,9],[7,9]),([0,2,0,1,2,3,4,5,6,7,8,9,10],[0,2]),([11,10,10,0,1,2,3,4,5,6,7,8,9,10],[10,11])])
def walk.B34:List Nat:=[0,0,2,0,0,16,56,120,0,256,1016,2047,4095]
theorem walk.tab34:rtab .any (dZf Try.f31 34)=walk.T34:=by kernel_rfl
theorem walk.bits34:cZn walk.T34.2 walk.B34=true:=by kernel_rfl
theorem walk_r34 {u0 u1 u2 u3 u4 u6 u7 u10 u11 u12 u13 u14 u15 u16 u17 u18 u19 u20 u21 u22 u23 u24 u25 u26 u27 u28 u29 u30 u31 u32 u33 u34 u35 u36 u37 u38 u39 u40 u41 u42 u43 u44 u45 u46 u47 u48 u49 u50 u51 u52 u53 u54 u55 u56 u57 u58 u59 u60 u61 u62 u63 u64 u65 u66 u67 u68 u69 u70 u71 u72 u73 u74 u75 u76 u77 u78 u79 u80 u81 u82 u83 u84 u85 u86 u87 u88 u89 u90 u91 u92 u93 u94 u95 u96 u97 u98 u99 u100 u101 u102 u103 u104 u105 u106 u107 u108 u109 u110 u111 u112 u113 u114 u115 u116 u117 u118 u119 u120 u121 u122 u123 u124 u125 u126 u127 u128 u129 u130 u131 u132 u133 u134 u135 u136 u137 u138 u139 u140 u141 u142 u143 u144 u145 u146 u147 u148 u149 u150 u151 u152 u153 u154 u155 u156 u157 u158 u159 u160 u161 u162 u163 u164 u165 u166 u167 u168 u169 u170 u171 u172 u173 u174 u175 u176 u177 u178 u179 u180 u181 u182 u183 u184 u185 u186 u187 u188 u189 u190 u191 u192 u193 u194 u195 u196 u197 u198:Value} {K:Act→World→Prop} {Q':Exit→Act→World→Prop} {ops:Array Oper} (hops:ops=dZf Try.f31 34) {W:World} {base gi n ci bx i cu:Nat} {A:Int} {Au:Option Addr} {l:List Int} {oki:Nat→Prop}
 (hx:W.cell? ⟨bx,1,none⟩=some (.int .i64 A)) (hg:W.cell? ⟨gi,A.toNat,none⟩=some (.slice Au l.length cu)) (hf:W.frozen? ⟨gi,A.toNat,none⟩=false) (hR:(Kd.int .i64).R 3 W base oki (.slice Au l.length cu) l) (hbx:some bx≠(Value.slice Au l.length cu).ownBlock) (hbg:some gi≠(Value.slice Au l.length cu).ownBlock) (hA0:0≤A) (hA1:A<n) (hb:base≤W.heap.size) (hl:l.length≤100000)
 (hQ:∀ c (a:Act) i v w,Q' (.panic c) (a.put (some i) v) w→Q' (.panic c) a w)
 (hK : ∀ (v177 v178 v179 v180 v181 v182 v183 v184 v185 v186 v187 v188 : Value) (A2 : Option Addr) (c2 : Nat) (w1 : World), (Kd.int .i64).R 3 w1 base (fun k => oki k ∨ W.heap.size ≤ k) (.slice A2 (l.length + 1) c2) (l ++ [(i : Int)]) → W.drew.grownBy w1 (Value.slice Au l.length cu).ownBlock → K
  ⟨#[u0, u1, u2, u3, u4, .slice (some ⟨gi, 0, none⟩) n ci, u6, u7, .int .i64 (i : Int), .pointer (some ⟨bx, 0, none⟩), u10, u11, u12, u13, u14, u15, u16, u17, u18, u19, u20, u21, u22,
  u23,u24,u25,u26,u27,u28,u29,u30,u31,u32,u33,u34,u35,u36,u37,u38,u39,u40,u41,u42,u43,u44,u45,u46,u47,u48,u49,u50,u51,u52,u53,u54,u55,u56,u57,u58,
  u59,u60,u61,u62,u63,u64,u65,u66,u67,u68,u69,u70,u71,u72,u73,u74,u75,u76,u77,u78,u79,u80,u81,u82,u83,u84,u85,u86,u87,u88,u89,u90,u91,u92,u93,u94,
  u95,u96,u97,u98,u99,u100,u101,u102,u103,u104,u105,u106,u107,u108,u109,u110,u111,u112,u113,u114,u115,u116,u117,u118,u119,u120,u121,u122,u123,u124,u125,
  u126,u127,u128,u129,u130,u131,u132,u133,u134,u135,u136,u137,u138,u139,u140,u141,u142,u143,u144,u145,u146,u147,u148,u149,u150,u151,u152,u153,u154,u155,
  u156,u157,u158,u159,u160,u161,u162,u163,u164,u165,u166,u167,u168,u169,u170,u171,u172,u173,u174,u175,u176,v177,v178,v179,v180,v181,v182,v183,v184,v185,
  v186,v187,v188,u189,u190,u191,u192,u193,u194,u195,u196,u197,u198],[]⟩ (w1.setCell ⟨gi,A.toNat,none⟩ (.slice A2 (l.length+1) c2))) :
 (Code.region 34 ops true).wp Try.prog (Exit.then K Q')
  ⟨#[u0, u1, u2, u3, u4, .slice (some ⟨gi, 0, none⟩) n ci, u6, u7, .int .i64 (i : Int), .pointer (some ⟨bx, 0, none⟩), u10, u11, u12, u13, u14, u15, u16, u17, u18, u19, u20, u21, u22,
  u23,u24,u25,u26,u27,u28,u29,u30,u31,u32,u33,u34,u35,u36,u37,u38,u39,u40,u41,u42,u43,u44,u45,u46,u47,u48,u49,u50,u51,u52,u53,u54,u55,u56,u57,u58,
  u59,u60,u61,u62,u63,u64,u65,u66,u67,u68,u69,u70,u71,u72,u73,u74,u75,u76,u77,u78,u79,u80,u81,u82,u83,u84,u85,u86,u87,u88,u89,u90,u91,u92,u93,u94,
  u95,u96,u97,u98,u99,u100,u101,u102,u103,u104,u105,u106,u107,u108,u109,u110,u111,u112,u113,u114,u115,u116,u117,u118,u119,u120,u121,u122,u123,u124,u125,
  u126,u127,u128,u129,u130,u131,u132,u133,u134,u135,u136,u137,u138,u139,u140,u141,u142,u143,u144,u145,u146,u147,u148,u149,u150,u151,u152,u153,u154,u155,
  u156,u157,u158,u159,u160,u161,u162,u163,u164,u165,u166,u167,u168,u169,u170,u171,u172,u173,u174,u175,u176,u177,u178,u179,u180,u181,u182,u183,u184,u185,
  u186,u187,u188,u189,u190,u191,u192,u193,u194,u195,u196,u197,u198],[]⟩ W:=by
 rw [hops]
 clear hops ops
 simp only [dZf,Try.f31,Option.bind,opsIn,Nat.reduceBEq,Bool.false_eq_true,↓reduceIte,Option.getD]
 have HK:=hid_ hK
 have HQ:=hid_ hQ
 have HR:=hid_ hR
 have HN:=hid_ (And.intro hbx (And.intro hbg (And.intro hb hf)))
 have HC:=hid_ (And.intro hx hg)
 have lx:=aZC hx
 have lg:=aZC hg
 have hAn:A.toNat<n:=by omega
 have HLX:=hid_ (And.intro lx lg)
 clear hK hQ hR hbx hbg hb hf hx hg lx lg
 refine eZX (n:=13) (S:=fun w'=>(w'.cell? ⟨bx,1,none⟩=some (.int .i64 A)∧w'.cell? ⟨gi,A.toNat,none⟩=some (.slice Au l.length cu))) (ds:=[12]) (bm 13 0) (by kernel_rfl) rfl (by kernel_rfl) ⟨HC.out.1,HC.out.2⟩ (fun hHeld=>?_)
 refine cZq walk.tab34 walk.bits34 (fun HT_ HW_=>?_)
 refine bZG (i:=0) (N:=some 177) (v:=?_) (a':=?_) (bm 13 1) rfl rfl (aZY HT_.out (by kernel_rfl)) (fun _ _ _ h=>HQ.out _ _ _ _ _ h) (Or.inl ⟨by rfl,?_⟩) ?_ ?_
 rotate_left
 ·
  intro w'
  go_simp
  with_reducible rfl
 rotate_left
 ·
  simp only [Act.put,List.setIfInBounds_toArray,List.set_cons_zero,List.set_cons_succ]
  rfl
 refine bZG (i:=1) (N:=some 178) (v:=?_) (a':=?_) (bm 13 3) rfl rfl (aZY HT_.out (by kernel_rfl)) (fun _ _ _ h=>HQ.out _ _ _ _ _ h) (Or.inl ⟨by rfl,?_⟩) ?_ ?_
 rotate_left
 ·
  intro w'
  go_simp
  with_reducible rfl
 rotate_left
 ·
  simp only [Act.put,List.setIfInBounds_toArray,List.set_cons_zero,List.set_cons_succ]
  rfl
 refine bZG (i:=3) (N:=some 180) (v:=?_) (a':=?_) (bm 13 11) rfl rfl (aZY HT_.out (by kernel_rfl)) (fun _ _ _ h=>HQ.out _ _ _ _ _ h) (Or.inl ⟨by rfl,?_⟩) ?_ ?_
 rotate_left
 ·
  intro w'
  go_simp
  with_reducible rfl
 rotate_left
 ·
  simp only [Act.put,List.setIfInBounds_toArray,List.set_cons_zero,List.set_cons_succ]
  rfl
 refine bZG (i:=4) (N:=some 181) (v:=?_) (a':=?_) (bm 13 27) rfl rfl (aZY HT_.out (by kernel_rfl)) (fun _ _ _ h=>HQ.out _ _ _ _ _ h) (Or.inl ⟨by rfl,?_⟩) ?_ ?_
 rotate_left
 ·
  intro w'
  go_simp
  with_reducible rfl
 rotate_left
 ·
  simp only [Act.put,List.setIfInBounds_toArray,List.set_cons_zero,List.set_cons_succ]
  rfl
 refine bZG (i:=8) (N:=some 185) (v:=?_) (a':=?_) (bm 13 283) rfl rfl (aZY HT_.out (by kernel_rfl)) (fun _ _ _ h=>HQ.out _ _ _ _ _ h) (Or.inl ⟨by rfl,?_⟩) ?_ ?_
 rotate_left
 ·
  intro w'
  go_simp
  with_reducible rfl
 rotate_left
 ·
  simp only [Act.put,List.setIfInBounds_toArray,List.set_cons_zero,List.set_cons_succ]
  rfl
 refine take_ (i:=2) (N:=some 179) (v:=?_) (a':=?_) (bm 13 287) rfl rfl (bZc HT_.out HW_.out (by kernel_rfl)) (fun _ _ _ h=>HQ.out _ _ _ _ _ h) (Or.inl ⟨by rfl,?_⟩) hHeld ?_ ?_
 rotate_left
 ·
  intro w' hS'
  obtain ⟨q0,q1⟩:=hS'
  go_simp
  with_reducible rfl
 rotate_left
 ·
  simp only [Act.put,List.setIfInBounds_toArray,List.set_cons_zero,List.set_cons_succ]
  rfl
 refine take_ (i:=5) (N:=some 182) (v:=?_) (a':=?_) (bm 13 319) rfl rfl (bZc HT_.out HW_.out (by kernel_rfl)) (fun _ _ _ h=>HQ.out _ _ _ _ _ h) (Or.inl ⟨by rfl,?_⟩) hHeld ?_ ?_
 rotate_left
 ·
  intro w' hS'
  obtain ⟨q0,q1⟩:=hS'
  go_simp
  with_reducible rfl
 rotate_left
 ·
  simp only [Act.put,List.setIfInBounds_toArray,List.set_cons_zero,List.set_cons_succ]
  rfl
 refine bZG (i:=6) (N:=some 183) (v:=?_) (a':=?_) (bm 13 383) rfl rfl (aZY HT_.out (by kernel_rfl)) (fun _ _ _ h=>HQ.out _ _ _ _ _ h) (Or.inl ⟨by rfl,?_⟩) ?_ ?_
 rotate_left
 ·
  intro w'
  go_simp
  with_reducible rfl
 rotate_left
 ·
  simp only [Act.put,List.setIfInBounds_toArray,List.set_cons_zero,List.set_cons_succ]
  rfl
 refine take_ (i:=7) (N:=some 184) (v:=?_) (a':=?_) (bm 13 511) rfl rfl (bZc HT_.out HW_.out (by kernel_rfl)) (fun _ _ _ h=>HQ.out _ _ _ _ _ h) (Or.inl ⟨by rfl,?_⟩) hHeld ?_ ?_
 rotate_left
 ·
  intro w' hS'
  obtain ⟨q0,q1⟩:=hS'
  go_simp
  with_reducible rfl
 rotate_left
 ·
  simp only [Act.put,List.setIfInBounds_toArray,List.set_cons_zero,List.set_cons_succ]
  rfl
 refine one_ (i:=9) (N:=some 186) (bm 13 1023) rfl rfl (cZc HT_.out (by kernel_rfl)) (by decide) (fun K hK=>?_)
 go_simp
 refine hK.out _ _ ⟨(dZE (heap_alloc_old W _ HLX.out.1)).trans HC.out.1,(dZE (heap_alloc_old W _ HLX.out.2)).trans HC.out.2⟩ (fun hHeld=>?_)
 clear hK K
 refine one_ (i:=10) (N:=some 187) (bm 13 2047) rfl rfl (cZc HT_.out (by kernel_rfl)) (by decide) (fun K hK=>?_)
 refine Kd.R_append_step (Kd.int .i64) (W:=W.drew) (w0:=W) base (by rfl) (.tmp 184) (.tmp 186) 23 3 (.int .i64 0) 8 rfl Try.underlying23 info3 rfl (by decide) (by omega) (.slice Au l.length cu) l (i:Int) [.int .i64 i] (fun k=>oki k∨W.heap.size≤k) (fun _=>False) rfl rfl rfl (fun _ hk=>hk.elim) (fun _ hk=>.inr hk) (Kd.R_mono (Kd.R_drew HR.out) (fun _ hk=>.inl hk)) (Below.refl _ _).drew HN.out.2.2.1 (by omega) ?_
 intro v1 w1 hr1 hb1 hg1 _
 obtain ⟨A2,c2,hv2⟩:=Kd.R_slice hr1
 rw [show (l++[(i:Int)]).length=l.length+1 by simp] at hv2
 subst hv2
 have hx1:w1.heap[bx]?=W.heap[bx]?:=hg1.block bx HLX.out.1 HN.out.1
 have hgi1:w1.heap[gi]?=W.heap[gi]?:=hg1.block gi HLX.out.2 HN.out.2.1
 refine hK.out _ _ ⟨(dZE hx1).trans HC.out.1,(dZE hgi1).trans HC.out.2⟩ (fun hHeld=>?_)
 clear hK K
 refine norm_ (a':=?_) ?_ ?_
 rotate_left
 ·
  show Act.put _ (some 187) _=_
  simp only [Act.put,List.setIfInBounds_toArray,List.set_cons_zero,List.set_cons_succ]
  rfl
 refine bZG (i:=11) (N:=some 188) (v:=?_) (a':=?_) (bm 13 4095) rfl rfl (aZY HT_.out (by kernel_rfl)) (fun _ _ _ h=>HQ.out _ _ _ _ _ h) (Or.inl ⟨by rfl,?_⟩) ?_ ?_
 rotate_left
 ·
  intro w'
  go_simp
  with_reducible rfl
 rotate_left
 ·
  simp only [Act.put,List.setIfInBounds_toArray,List.set_cons_zero,List.set_cons_succ]
  rfl
 refine last_ (i:=12) (N:=none) (bm 13 8191) rfl rfl (cZc HT_.out (by kernel_rfl)) (by decide) (fun K hK=>?_)
 have y0:=hHeld.2
 have y1:w1.frozen? ⟨gi,A.toNat,none⟩=false:=(froz_same hgi1).trans HN.out.2.2.2
 go_simp
 refine hK.out _ _ ?_
 clear y0 y1
 clear hK K
 refine done_ (dZV HT_.out (by kernel_rfl)) ?_
 exact HK.out _ _ _ _ _ _ _ _ _ _ _ _ _ _ _ hr1 hg1
section
variable {w W W2:World} {X F:Nat} {A0 A1 A2 A3 A4:Option Addr} {c0 c1 c2 c3 c4:Nat} {g:Pg} {I I':Nat→Prop} {vi va vb v':Value} {into into':List (List Int)} {ahead after:List Pr}
structure Noted (w W W2:World) (I I':Nat→Prop) (vi:Value) (into':List (List Int)):Prop where
  lt:∀ k,I' k→k<W2.heap.size
  into:Kd.S kIn 23 W2 w.heap.size I' vi into'
  not:∀ k,k<W.heap.size→¬I k→¬I' k
  same:∀ k,k<W.heap.size→¬I k→W2.heap[k]?=W.heap[k]?
  typed:∀ (k:Nat) (cells:Array Value) (q:Nat),W.heap[k]?=some (.cells cells q (0,0))→q≠3→q≠23→W2.heap[k]?=W.heap[k]?
  below:Below w.heap.size W W2
theorem Noted.idle (h:StW w W X F A0 A1 A2 A3 A4 c0 c1 c2 c3 c4 g I vi va vb into ahead after):Noted w W W I I vi into :=
  ⟨h.lt,h.into,fun _ _ h=>h,fun _ _ _=>rfl,fun _ _ _ _ _ _=>rfl,Below.refl _ _⟩
theorem Noted.sw (n:Noted w W W2 I I' vi into') (h:StW w W X F A0 A1 A2 A3 A4 c0 c1 c2 c3 c4 g I vi va vb into ahead after) (hI:InPg w A0 A1 A2 A3 A4 c0 c1 c2 c3 c4 g):StW w W2 X F A0 A1 A2 A3 A4 c0 c1 c2 c3 c4 g I' vi va vb into' ahead after :=
  ⟨⟨h.st.below.trans n.below, (n.typed _ _ _ h.st.box (by decide) (by decide)).trans h.st.box, hI.below (h.st.below.trans n.below)⟩, (n.typed _ _ _ h.fx (by decide) (by decide)).trans h.fx, n.into,
    Kd.R_mono (Kd.R_step (Kd.R_bound h.ahead) (fun k hk _=>n.same k hk.2.2.1 hk.1.1)) (fun k hk=>⟨n.not k hk.2.2.1 hk.1.1,hk.1.2⟩),
    Kd.R_mono (Kd.R_step (Kd.R_bound h.after) (fun k hk _=>n.same k hk.2.2.1 hk.1.1)) (fun k hk=>⟨n.not k hk.2.2.1 hk.1.1,hk.1.2⟩),n.lt⟩
theorem Noted.row (n:Noted w W W2 I I' vi into') {base:Nat} {v:Value} {l:List Int} (h:(Kd.int .i64).R 3 W base (fun k=>¬I k) v l):(Kd.int .i64).R 3 W2 base (fun k=>¬I' k) v l :=
  Kd.R_mono (Kd.R_step (Kd.R_bound h) (fun k hk _=>n.same k hk.2.2.1 hk.1)) (fun k hk=>n.not k hk.2.2.1 hk.1)
theorem noted_push {gi n ci A:Nat} (h:StW w W X F A0 A1 A2 A3 A4 c0 c1 c2 c3 c4 g I (.slice (some ⟨gi,0,none⟩) n ci) va vb into ahead after) (hA:A<n) :
 ∃ (oki:Nat→Prop) (Au:Option Addr) (cu:Nat),W.cell? ⟨gi,A,none⟩=some (.slice Au (into.getD A []).length cu)∧W.frozen? ⟨gi,A,none⟩=false∧(Kd.int .i64).R 3 W w.heap.size oki (.slice Au (into.getD A []).length cu) (into.getD A []) ∧
  (∀ (k:Nat) (cells:Array Value) (q:Nat),W.heap[k]?=some (.cells cells q (0,0))→q≠3→some k≠(Value.slice Au (into.getD A []).length cu).ownBlock)∧some gi≠(Value.slice Au (into.getD A []).length cu).ownBlock ∧
  ∀ (w1:World) (v1:Value) (l':List Int),(Kd.int .i64).R 3 w1 w.heap.size (fun k=>oki k∨W.heap.size≤k) v1 l'→W.drew.grownBy w1 (Value.slice Au (into.getD A []).length cu).ownBlock →
   ∃ I',Noted w W (w1.setCell ⟨gi,A,none⟩ v1) I I' (.slice (some ⟨gi,0,none⟩) n ci) (into.set A l'):=by
 obtain ⟨oki,Au,cu,h1,h2,h3,hIg,hglt,⟨cg,hcg⟩,hown,hput⟩:=into_push h.into A hA
 have hne:∀ (k:Nat) (cells:Array Value) (q:Nat),W.heap[k]?=some (.cells cells q (0,0))→q≠3→some k≠(Value.slice Au (into.getD A []).length cu).ownBlock:=fun k cells q hk hq e=>by
  obtain ⟨-,c3,hc3⟩:=hown k e.symm
  rw [hk] at hc3
  injection hc3 with hc3
  injection hc3 with _ hc3
  exact hq hc3
 refine ⟨oki,Au,cu,h1,h2,h3,hne,hne gi cg 23 hcg (by decide),?_⟩
 intro w1 v1 l' hr hg
 have hS:=hput W.drew w1 v1 l' (Below.refl _ _).drew hr hg
 have hsz:(w1.setCell ⟨gi,A,none⟩ v1).heap.size=w1.heap.size:=by simp [World.setCell]
 have hblk:∀ k,k<W.heap.size→some k≠(Value.slice Au (into.getD A []).length cu).ownBlock→k≠gi→(w1.setCell ⟨gi,A,none⟩ v1).heap[k]?=W.heap[k]?:=fun k hk h1 h2=>(Below.heap_setCell w1 _ _ k h2).trans (hg.block k hk h1)
 have hbase:∀ k,I k→w.heap.size≤k→True:=fun _ _ _=>trivial
 refine ⟨fun k=>(I k∨W.heap.size≤k)∧k<w1.heap.size,⟨fun k hk=>by rw [hsz];exact hk.2,Kd.S_mono (Kd.S_bound hS) (fun k hk=>⟨hk.1,by have:=hk.2.2.1;omega⟩),fun k hk hn hi=>hi.1.elim hn (fun h=>by omega),fun k hk hn=>hblk k hk (fun e=>hn (hown k e.symm).1) (fun e=>hn (e▸hIg)),fun k cells q hk h3 h23=>hblk k (aZd hk) (hne k cells q hk h3) (fun e=>?_),?_⟩⟩
 ·
  subst e
  rw [hk] at hcg
  injection hcg with hcg
  injection hcg with _ hcg
  exact h23 hcg
 ·
  have hgb:w.heap.size≤gi:=by
   have:=(Kd.S_bound h.into)
   exact ((Kd.S_R this).1 gi rfl).2.1
  have hob:∀ k,k<w.heap.size→some k≠(Value.slice Au (into.getD A []).length cu).ownBlock:=fun k hk e=>by
   have:=bZv (Kd.R_own h3).choose_spec k e.symm
   omega
  have hbw:Below w.heap.size W w1:=⟨hg.os,hg.tape,hg.output,hg.size,fun k hk=>hg.block k (Nat.lt_of_lt_of_le hk h.st.below.size) (hob k hk)⟩
  exact hbw.setCell (p:=⟨gi,A,none⟩) hgb _
theorem push_M (h:StW w W X F A0 A1 A2 A3 A4 c0 c1 c2 c3 c4 g I vi va vb into ahead after) {s:Pr} {v1 v2:Value} (r1:(Kd.int .i64).R 3 W w.heap.size (fun k=>¬I k) v1 s.1) (r2:(Kd.int .i64).R 3 W w.heap.size (fun k=>¬I k) v2 s.2) :
    kSt.M W w.heap.size (fun k=>(¬I k∧some k≠vb.ownBlock)∧some k≠va.ownBlock) s [v1,v2] :=
  ⟨[v1],[v2],rfl,⟨v1,rfl,Kd.R_apart' (Kd.R_apart' r1 (Kd.R_typed h.after) (by decide)) (Kd.R_typed h.ahead) (by decide)⟩,⟨v2,rfl,Kd.R_apart' (Kd.R_apart' r2 (Kd.R_typed h.after) (by decide)) (Kd.R_typed h.ahead) (by decide)⟩⟩
theorem eZg {e:Nat} {v:Value} {base:Nat} {ok:Nat→Prop} {l:List Pr} (h:kSt.R 94 W base ok v l) {k q:Nat} {cells:Array Value} (hk:W.heap[k]?=some (.cells cells q (0,0))) (hq:94≠q):some k≠v.ownBlock:=Kd.R_ne h hk hq
theorem StW.push_ahead (h:StW w W X F A0 A1 A2 A3 A4 c0 c1 c2 c3 c4 g I vi va vb into ahead after) (hI:InPg w A0 A1 A2 A3 A4 c0 c1 c2 c3 c4 g) {s:Pr} (hr:kSt.R 94 W2 w.heap.size (fun k=>¬I k∧some k≠vb.ownBlock) v' (ahead++[s])) (hb:Below w.heap.size W W2) (hg:W.grownBy W2 va.ownBlock) (hat:v'.ownBlock=va.ownBlock∨∃ b,v'.ownBlock=some b∧W.heap.size≤b) :
    StW w W2 X F A0 A1 A2 A3 A4 c0 c1 c2 c3 c4 g I vi v' vb into (ahead++[s]) after :=
  ⟨⟨h.st.below.trans hb, (hg.block _ (aZd h.st.box) (eZg (e := 0) h.ahead h.st.box (by decide))).trans h.st.box, hI.below (h.st.below.trans hb)⟩, (hg.block _ (aZd h.fx) (eZg (e := 0) h.ahead h.fx (by decide))).trans h.fx,
    Kd.S_grown h.into hg (fun k hk e=>(h.ahead.1 k e.symm).1 hk),hr,Kd.R_after h.after hg hat,fun k hk=>Nat.lt_of_lt_of_le (h.lt k hk) hg.size⟩
theorem StW.push_after (h:StW w W X F A0 A1 A2 A3 A4 c0 c1 c2 c3 c4 g I vi va vb into ahead after) (hI:InPg w A0 A1 A2 A3 A4 c0 c1 c2 c3 c4 g) {s:Pr} (hr:kSt.R 94 W2 w.heap.size (fun k=>¬I k∧some k≠va.ownBlock) v' (after++[s])) (hb:Below w.heap.size W W2) (hg:W.grownBy W2 vb.ownBlock) (hat:v'.ownBlock=vb.ownBlock∨∃ b,v'.ownBlock=some b∧W.heap.size≤b) :
    StW w W2 X F A0 A1 A2 A3 A4 c0 c1 c2 c3 c4 g I vi va v' into ahead (after++[s]) :=
  ⟨⟨h.st.below.trans hb, (hg.block _ (aZd h.st.box) (eZg (e := 0) h.after h.st.box (by decide))).trans h.st.box, hI.below (h.st.below.trans hb)⟩, (hg.block _ (aZd h.fx) (eZg (e := 0) h.after h.fx (by decide))).trans h.fx,
    Kd.S_grown h.into hg (fun k hk e=>(h.after.1 k e.symm).1 hk),Kd.R_after h.ahead hg hat,hr,fun k hk=>Nat.lt_of_lt_of_le (h.lt k hk) hg.size⟩
theorem fZN {base:Nat} {v:Value} {l:List Int} (h:StW w W X F A0 A1 A2 A3 A4 c0 c1 c2 c3 c4 g I vi va vb into ahead after) (r:(Kd.int .i64).R 3 W base (fun k=>¬I k) v l) (hg:W.grownBy W2 va.ownBlock):(Kd.int .i64).R 3 W2 base (fun k=>¬I k) v l :=
  Kd.R_over' r (Kd.R_typed h.ahead) (by decide) hg
theorem push_M2 (h:StW w W X F A0 A1 A2 A3 A4 c0 c1 c2 c3 c4 g I vi va vb into ahead after) {s:Pr} {v1 v2:Value} (r1:(Kd.int .i64).R 3 W w.heap.size (fun k=>¬I k) v1 s.1) (r2:(Kd.int .i64).R 3 W w.heap.size (fun k=>¬I k) v2 s.2) :
    kSt.M W w.heap.size (fun k=>(¬I k∧some k≠va.ownBlock)∧some k≠vb.ownBlock) s [v1,v2] :=
  kSt.M_mono (fun k hk=>⟨⟨hk.1.1,hk.2⟩,hk.1.2⟩) (push_M h r1 r2)
theorem fZ2 (into:List (List Int)) (x:S66) (i t:Nat):(cZX into x i).getD t []=into.getD t []∨(cZX into x i).getD t []=into.getD t []++[(i:Int)]:=by
 unfold cZX
 split
 ·
  by_cases ht:x.f1.toNat=t
  ·
   subst ht
   rcases Nat.lt_or_ge x.f1.toNat into.length with hl|hl
   · exact .inr (cZQ _ _ _ _ hl)
   ·
    left
    rw [List.getD_eq_getElem?_getD,List.getD_eq_getElem?_getD,List.getElem?_eq_none (by rw [List.length_set];exact hl),List.getElem?_eq_none hl]
  · exact .inl (getD_set_ne _ _ _ _ _ ht)
 · exact .inl rfl
theorem intoF_len (into:List (List Int)) (x:S66) (i:Nat):(cZX into x i).length=into.length:=by
 unfold cZX
 split
 · rw [List.length_set]
 · rfl
theorem inv_step {W0:World} {i:Nat} {x:S66} {s t:Pr} {va0 vb0:Value} (h:Inv w W0 X F A0 A1 A2 A3 A4 c0 c1 c2 c3 c4 g i I vi va0 vb0 into ahead after) (sw:StW w W X F A0 A1 A2 A3 A4 c0 c1 c2 c3 c4 g I' vi va vb (cZX into x i) (ahead++[s]) (after++[t])) (hlt:i<g.C.length)
 (hgt:eZP g.loc.toNat t) (hdp:(t.1.length:Int)≤g.dep) (hres:cZr g=refL (KP g) (g.C.length - i - 1) (i+1) (after++[t]) (cZX into x i) (ahead++[s])) :
 Inv w W X F A0 A1 A2 A3 A4 c0 c1 c2 c3 c4 g (i+1) I' vi va vb (cZX into x i) (ahead++[s]) (after++[t]):=by
 refine ⟨sw,hlt,by rw [List.length_append,h.la];rfl,by rw [List.length_append,h.lah];rfl,by rw [intoF_len];exact h.lin,fun p q hq=>?_,fun p=>?_,fun a ha=>?_,?_⟩
 ·
  rcases fZ2 into x i p with e|e
  ·
   rw [e] at hq
   have:=h.inlt p q hq
   omega
  ·
   rw [e] at hq
   rcases List.mem_append.1 hq with hq|hq
   ·
    have:=h.inlt p q hq
    omega
   ·
    rw [List.mem_singleton.1 hq]
    omega
 ·
  have:=h.inlen p
  rcases fZ2 into x i p with e|e
  · rw [e];omega
  · rw [e,List.length_append];exact Nat.succ_le_succ this
 ·
  rcases List.mem_append.1 ha with ha|ha
  · exact h.good a ha
  · rw [List.mem_singleton.1 ha];exact ⟨hgt,hdp⟩
 · rw [hres,Nat.sub_sub]
end
theorem walk_r14 {u0 u1 u2 u4 u5 u6 u7 u9 u11 u12 u13 u14 u15 u16 u17 u18 u19 u20 u21 u22 u23 u24 u25 u26 u27 u28 u29 u30 u31 u32 u33 u34 u35 u36 u37 u38 u39 u40 u41 u42 u43 u44 u45 u46 u47 u48 u49 u50 u51 u52 u53 u54 u55 u56 u57 u58 u59 u60 u61 u62 u63 u64 u65 u66 u67 u68 u69 u70 u71 u72 u73 u74 u75 u76 u77 u78 u79 u80 u81 u82 u83 u84 u85 u86 u87 u88 u89 u90 u91 u92 u93 u94 u95 u96 u97 u98 u99 u100 u101 u102 u103 u104 u105 u106 u107 u108 u109 u110 u111 u112 u113 u114 u115 u116 u117 u118 u119 u120 u121 u122 u123 u124 u125 u126 u127 u128 u129 u130 u131 u132 u133 u134 u135 u136 u137 u138 u139 u140 u141 u142 u143 u144 u145 u146 u147 u148 u149 u150 u151 u152 u153 u154 u155 u156 u157 u158 u159 u160 u161 u162 u163 u164 u165 u166 u167 u168 u169 u170 u171 u172 u173 u174 u175 u176 u177 u178 u179 u180 u181 u182 u183 u184 u185 u186 u187 u188 u189 u190 u191 u192 u193 u194 u195 u196 u197 u198:Value} {K:Act→World→Prop} {Q':Exit→Act→World→Prop} {ops:Array Oper} (hops:ops=dZf Try.f31 14) {W:World} {bC:Nat} {n i:Int}
 (hF:W.heap[bC]?=some (rdO 0 0))
 (hK : ∀ (v87 v88 v89 : Value), K
  ⟨#[u0, u1, .slice none 0 0, .pointer (some ⟨bC, 0, none⟩), u4, u5, u6, u7, .int .i64 i, u9, .int .i64 n, u11, u12, u13, u14, u15, u16, u17, u18, u19, u20, u21, u22, u23, u24, u25, u26,
  u27,u28,u29,u30,u31,u32,u33,u34,u35,u36,u37,u38,u39,u40,u41,u42,u43,u44,u45,u46,u47,u48,u49,u50,u51,u52,u53,u54,u55,u56,u57,u58,u59,u60,u61,u62,
  u63,u64,u65,u66,u67,u68,u69,u70,u71,u72,u73,u74,u75,u76,u77,u78,u79,u80,u81,u82,u83,u84,u85,u86,v87,v88,v89,u90,u91,u92,u93,u94,u95,u96,u97,u98,
  u99,u100,u101,u102,u103,u104,u105,u106,u107,u108,u109,u110,u111,u112,u113,u114,u115,u116,u117,u118,u119,u120,u121,u122,u123,u124,u125,u126,u127,u128,
  u129,u130,u131,u132,u133,u134,u135,u136,u137,u138,u139,u140,u141,u142,u143,u144,u145,u146,u147,u148,u149,u150,u151,u152,u153,u154,u155,u156,u157,u158,
  u159,u160,u161,u162,u163,u164,u165,u166,u167,u168,u169,u170,u171,u172,u173,u174,u175,u176,u177,u178,u179,u180,u181,u182,u183,u184,u185,u186,u187,u188,
  u189,u190,u191,u192,u193,u194,u195,u196,u197,u198],[]⟩ (W.setRow bC (rdC n i))) :
 (Code.region 14 ops false).wp Try.prog (Exit.then K Q')
  ⟨#[u0, u1, u2, .pointer (some ⟨bC, 0, none⟩), u4, u5, u6, u7, .int .i64 i, u9, .int .i64 n, u11, u12, u13, u14, u15, u16, u17, u18, u19, u20, u21, u22, u23, u24, u25, u26, u27, u28,
  u29,u30,u31,u32,u33,u34,u35,u36,u37,u38,u39,u40,u41,u42,u43,u44,u45,u46,u47,u48,u49,u50,u51,u52,u53,u54,u55,u56,u57,u58,u59,u60,u61,u62,u63,u64,
  u65,u66,u67,u68,u69,u70,u71,u72,u73,u74,u75,u76,u77,u78,u79,u80,u81,u82,u83,u84,u85,u86,u87,u88,u89,u90,u91,u92,u93,u94,u95,u96,u97,u98,u99,u100,
  u101,u102,u103,u104,u105,u106,u107,u108,u109,u110,u111,u112,u113,u114,u115,u116,u117,u118,u119,u120,u121,u122,u123,u124,u125,u126,u127,u128,u129,u130,
  u131,u132,u133,u134,u135,u136,u137,u138,u139,u140,u141,u142,u143,u144,u145,u146,u147,u148,u149,u150,u151,u152,u153,u154,u155,u156,u157,u158,u159,u160,
  u161,u162,u163,u164,u165,u166,u167,u168,u169,u170,u171,u172,u173,u174,u175,u176,u177,u178,u179,u180,u181,u182,u183,u184,u185,u186,u187,u188,u189,u190,
  u191,u192,u193,u194,u195,u196,u197,u198],[]⟩ W:=by
 rw [hops]
 clear hops ops
 simp only [dZf,Try.f31,Option.bind,opsIn,Nat.reduceBEq,Bool.false_eq_true,↓reduceIte,Option.getD]
 have HK:=hid_ hK
 have HF:=hid_ hF
 clear hK hF
 go_wp2_with ((with_reducible refine aZM (t:=41) (p:=3) rfl ?_);refine wpList_store_row rfl 41 (.tmp 3) (.tmp 89) rfl bC (rdC n i) rfl rfl 41 (rdC 0 0) HF.out (bZL n i) (bZX 0 0 n i) (cZW n i) ?_)
 exact HK.out _ _ _
theorem walk_r24 {u0 u1 u2 u4 u5 u6 u7 u9 u10 u11 u12 u13 u14 u15 u16 u17 u18 u19 u20 u21 u22 u23 u24 u25 u26 u27 u28 u29 u30 u31 u32 u33 u34 u35 u36 u37 u38 u39 u40 u41 u42 u43 u44 u45 u46 u47 u48 u49 u50 u51 u52 u53 u54 u55 u56 u57 u58 u59 u60 u61 u62 u63 u64 u65 u66 u67 u68 u69 u70 u71 u72 u73 u74 u75 u76 u77 u78 u79 u80 u81 u82 u83 u84 u85 u86 u87 u88 u89 u90 u91 u92 u93 u94 u95 u96 u97 u98 u99 u100 u101 u102 u103 u104 u105 u106 u107 u108 u109 u110 u111 u112 u113 u114 u115 u116 u117 u118 u119 u120 u121 u122 u123 u124 u125 u126 u127 u128 u129 u130 u131 u132 u133 u134 u135 u136 u137 u138 u139 u140 u141 u142 u143 u144 u145 u146 u147 u148 u149 u150 u151 u152 u153 u154 u155 u156 u157 u158 u159 u160 u161 u162 u163 u164 u165 u166 u167 u168 u169 u170 u171 u172 u173 u174 u175 u176 u177 u178 u179 u180 u181 u182 u183 u184 u185 u186 u187 u188 u189 u190 u191 u192 u193 u194 u195 u196 u197 u198:Value} {K:Act→World→Prop} {Q':Exit→Act→World→Prop} {ops:Array Oper} (hops:ops=dZf Try.f31 24) {W:World} {bC:Nat} {i:Int}
 (hF:W.heap[bC]?=some (rdO 0 0))
 (hK : ∀ (v127 v128 : Value), K
  ⟨#[u0, u1, .slice none 0 0, .pointer (some ⟨bC, 0, none⟩), u4, u5, u6, u7, .int .i64 i, u9, u10, u11, u12, u13, u14, u15, u16, u17, u18, u19, u20, u21, u22, u23, u24, u25, u26, u27,
  u28,u29,u30,u31,u32,u33,u34,u35,u36,u37,u38,u39,u40,u41,u42,u43,u44,u45,u46,u47,u48,u49,u50,u51,u52,u53,u54,u55,u56,u57,u58,u59,u60,u61,u62,u63,
  u64,u65,u66,u67,u68,u69,u70,u71,u72,u73,u74,u75,u76,u77,u78,u79,u80,u81,u82,u83,u84,u85,u86,u87,u88,u89,u90,u91,u92,u93,u94,u95,u96,u97,u98,u99,
  u100,u101,u102,u103,u104,u105,u106,u107,u108,u109,u110,u111,u112,u113,u114,u115,u116,u117,u118,u119,u120,u121,u122,u123,u124,u125,u126,v127,v128,u129,
  u130,u131,u132,u133,u134,u135,u136,u137,u138,u139,u140,u141,u142,u143,u144,u145,u146,u147,u148,u149,u150,u151,u152,u153,u154,u155,u156,u157,u158,u159,
  u160,u161,u162,u163,u164,u165,u166,u167,u168,u169,u170,u171,u172,u173,u174,u175,u176,u177,u178,u179,u180,u181,u182,u183,u184,u185,u186,u187,u188,u189,
  u190,u191,u192,u193,u194,u195,u196,u197,u198],[]⟩ (W.setRow bC (rdC 218 i))) :
 (Code.region 24 ops false).wp Try.prog (Exit.then K Q')
  ⟨#[u0, u1, u2, .pointer (some ⟨bC, 0, none⟩), u4, u5, u6, u7, .int .i64 i, u9, u10, u11, u12, u13, u14, u15, u16, u17, u18, u19, u20, u21, u22, u23, u24, u25, u26, u27, u28, u29, u30,
  u31,u32,u33,u34,u35,u36,u37,u38,u39,u40,u41,u42,u43,u44,u45,u46,u47,u48,u49,u50,u51,u52,u53,u54,u55,u56,u57,u58,u59,u60,u61,u62,u63,u64,u65,u66,
  u67,u68,u69,u70,u71,u72,u73,u74,u75,u76,u77,u78,u79,u80,u81,u82,u83,u84,u85,u86,u87,u88,u89,u90,u91,u92,u93,u94,u95,u96,u97,u98,u99,u100,u101,
  u102,u103,u104,u105,u106,u107,u108,u109,u110,u111,u112,u113,u114,u115,u116,u117,u118,u119,u120,u121,u122,u123,u124,u125,u126,u127,u128,u129,u130,u131,
  u132,u133,u134,u135,u136,u137,u138,u139,u140,u141,u142,u143,u144,u145,u146,u147,u148,u149,u150,u151,u152,u153,u154,u155,u156,u157,u158,u159,u160,u161,
  u162,u163,u164,u165,u166,u167,u168,u169,u170,u171,u172,u173,u174,u175,u176,u177,u178,u179,u180,u181,u182,u183,u184,u185,u186,u187,u188,u189,u190,u191,
  u192,u193,u194,u195,u196,u197,u198],[]⟩ W:=by
 rw [hops]
 clear hops ops
 simp only [dZf,Try.f31,Option.bind,opsIn,Nat.reduceBEq,Bool.false_eq_true,↓reduceIte,Option.getD]
 have HK:=hid_ hK
 have HF:=hid_ hF
 clear hK hF
 go_wp2_with ((with_reducible refine aZM (t:=41) (p:=3) rfl ?_);refine wpList_store_row rfl 41 (.tmp 3) (.tmp 128) rfl bC (rdC 218 i) rfl rfl 41 (rdC 0 0) HF.out (bZL 218 i) (bZX 0 0 218 i) (cZW 218 i) ?_)
 exact HK.out _ _
theorem fZl {u0 u1 u2 u4 u5 u6 u7 u9 u10 u11 u12 u13 u14 u15 u17 u18 u19 u20 u21 u22 u23 u24 u25 u26 u27 u28 u29 u30 u31 u32 u33 u34 u35 u36 u37 u38 u39 u40 u41 u42 u43 u44 u45 u46 u47 u48 u49 u50 u51 u52 u53 u54 u55 u56 u57 u58 u59 u60 u61 u62 u63 u64 u65 u66 u67 u68 u69 u70 u71 u72 u73 u74 u75 u76 u77 u78 u79 u80 u81 u82 u83 u84 u85 u86 u87 u88 u89 u90 u91 u92 u93 u94 u95 u96 u97 u98 u99 u100 u101 u102 u103 u104 u105 u106 u107 u108 u109 u110 u111 u112 u113 u114 u115 u116 u117 u118 u119 u120 u121 u122 u123 u124 u125 u126 u127 u128 u129 u130 u131 u132 u133 u134 u135 u136 u137 u138 u139 u140 u141 u142 u143 u144 u145 u146 u147 u148 u149 u150 u151 u152 u153 u154 u155 u156 u157 u158 u159 u160 u161 u162 u163 u164 u165 u166 u167 u168 u169 u170 u171 u172 u173 u174 u175 u176 u177 u178 u179 u180 u181 u182 u183 u184 u185 u186 u187 u188 u189 u190 u191 u192 u193 u194 u195 u196 u197 u198:Value} {K:Act→World→Prop} {Q':Exit→Act→World→Prop} {ops:Array Oper} (hops:ops=dZf Try.f31 32) {W:World} {bC:Nat} {n i:Int}
 (hF:W.heap[bC]?=some (rdO 0 0))
 (hK : ∀ (v166 v167 v168 : Value), K
  ⟨#[u0, u1, .slice none 0 0, .pointer (some ⟨bC, 0, none⟩), u4, u5, u6, u7, .int .i64 i, u9, u10, u11, u12, u13, u14, u15, .int .i64 n, u17, u18, u19, u20, u21, u22, u23, u24, u25, u26,
  u27,u28,u29,u30,u31,u32,u33,u34,u35,u36,u37,u38,u39,u40,u41,u42,u43,u44,u45,u46,u47,u48,u49,u50,u51,u52,u53,u54,u55,u56,u57,u58,u59,u60,u61,u62,
  u63,u64,u65,u66,u67,u68,u69,u70,u71,u72,u73,u74,u75,u76,u77,u78,u79,u80,u81,u82,u83,u84,u85,u86,u87,u88,u89,u90,u91,u92,u93,u94,u95,u96,u97,u98,
  u99,u100,u101,u102,u103,u104,u105,u106,u107,u108,u109,u110,u111,u112,u113,u114,u115,u116,u117,u118,u119,u120,u121,u122,u123,u124,u125,u126,u127,u128,
  u129,u130,u131,u132,u133,u134,u135,u136,u137,u138,u139,u140,u141,u142,u143,u144,u145,u146,u147,u148,u149,u150,u151,u152,u153,u154,u155,u156,u157,u158,
  u159,u160,u161,u162,u163,u164,u165,v166,v167,v168,u169,u170,u171,u172,u173,u174,u175,u176,u177,u178,u179,u180,u181,u182,u183,u184,u185,u186,u187,u188,
  u189,u190,u191,u192,u193,u194,u195,u196,u197,u198],[]⟩ (W.setRow bC (rdC n i))) :
 (Code.region 32 ops false).wp Try.prog (Exit.then K Q')
  ⟨#[u0, u1, u2, .pointer (some ⟨bC, 0, none⟩), u4, u5, u6, u7, .int .i64 i, u9, u10, u11, u12, u13, u14, u15, .int .i64 n, u17, u18, u19, u20, u21, u22, u23, u24, u25, u26, u27, u28,
  u29,u30,u31,u32,u33,u34,u35,u36,u37,u38,u39,u40,u41,u42,u43,u44,u45,u46,u47,u48,u49,u50,u51,u52,u53,u54,u55,u56,u57,u58,u59,u60,u61,u62,u63,u64,
  u65,u66,u67,u68,u69,u70,u71,u72,u73,u74,u75,u76,u77,u78,u79,u80,u81,u82,u83,u84,u85,u86,u87,u88,u89,u90,u91,u92,u93,u94,u95,u96,u97,u98,u99,u100,
  u101,u102,u103,u104,u105,u106,u107,u108,u109,u110,u111,u112,u113,u114,u115,u116,u117,u118,u119,u120,u121,u122,u123,u124,u125,u126,u127,u128,u129,u130,
  u131,u132,u133,u134,u135,u136,u137,u138,u139,u140,u141,u142,u143,u144,u145,u146,u147,u148,u149,u150,u151,u152,u153,u154,u155,u156,u157,u158,u159,u160,
  u161,u162,u163,u164,u165,u166,u167,u168,u169,u170,u171,u172,u173,u174,u175,u176,u177,u178,u179,u180,u181,u182,u183,u184,u185,u186,u187,u188,u189,u190,
  u191,u192,u193,u194,u195,u196,u197,u198],[]⟩ W:=by
 rw [hops]
 clear hops ops
 simp only [dZf,Try.f31,Option.bind,opsIn,Nat.reduceBEq,Bool.false_eq_true,↓reduceIte,Option.getD]
 have HK:=hid_ hK
 have HF:=hid_ hF
 clear hK hF
 go_wp2_with ((with_reducible refine aZM (t:=41) (p:=3) rfl ?_);refine wpList_store_row rfl 41 (.tmp 3) (.tmp 168) rfl bC (rdC n i) rfl rfl 41 (rdC 0 0) HF.out (bZL n i) (bZX 0 0 n i) (cZW n i) ?_)
 exact HK.out _ _ _
theorem walk_r37 {u0 u1 u2 u4 u5 u6 u7 u8 u9 u10 u11 u12 u13 u14 u15 u16 u17 u18 u19 u20 u21 u22 u23 u24 u25 u26 u27 u28 u29 u30 u31 u32 u33 u34 u35 u36 u37 u38 u39 u40 u41 u42 u43 u44 u45 u46 u47 u48 u49 u50 u51 u52 u53 u54 u55 u56 u57 u58 u59 u60 u61 u62 u63 u64 u65 u66 u67 u68 u69 u70 u71 u72 u73 u74 u75 u76 u77 u78 u79 u80 u81 u82 u83 u84 u85 u86 u87 u88 u89 u90 u91 u92 u93 u94 u95 u96 u97 u98 u99 u100 u101 u102 u103 u104 u105 u106 u107 u108 u109 u110 u111 u112 u113 u114 u115 u116 u117 u118 u119 u120 u121 u122 u123 u124 u125 u126 u127 u128 u129 u130 u131 u132 u133 u134 u135 u136 u137 u138 u139 u140 u141 u142 u143 u144 u145 u146 u147 u148 u149 u150 u151 u152 u153 u154 u155 u156 u157 u158 u159 u160 u161 u162 u163 u164 u165 u166 u167 u168 u169 u170 u171 u172 u173 u174 u175 u176 u177 u178 u179 u180 u181 u182 u183 u184 u185 u186 u187 u188 u189 u190 u191 u192 u193 u194 u195 u196 u197 u198:Value} {K:Act→World→Prop} {Q':Exit→Act→World→Prop} {ops:Array Oper} (hops:ops=dZf Try.f31 37) {W:World} {bC:Nat}
 (hF:W.heap[bC]?=some (rdO 0 0))
 (hK : ∀ (v197 v198 : Value), K
  ⟨#[u0, u1, u6, .pointer (some ⟨bC, 0, none⟩), u4, u5, u6, u7, u8, u9, u10, u11, u12, u13, u14, u15, u16, u17, u18, u19, u20, u21, u22, u23, u24, u25, u26, u27, u28, u29, u30, u31, u32,
  u33,u34,u35,u36,u37,u38,u39,u40,u41,u42,u43,u44,u45,u46,u47,u48,u49,u50,u51,u52,u53,u54,u55,u56,u57,u58,u59,u60,u61,u62,u63,u64,u65,u66,u67,u68,
  u69,u70,u71,u72,u73,u74,u75,u76,u77,u78,u79,u80,u81,u82,u83,u84,u85,u86,u87,u88,u89,u90,u91,u92,u93,u94,u95,u96,u97,u98,u99,u100,u101,u102,u103,
  u104,u105,u106,u107,u108,u109,u110,u111,u112,u113,u114,u115,u116,u117,u118,u119,u120,u121,u122,u123,u124,u125,u126,u127,u128,u129,u130,u131,u132,u133,
  u134,u135,u136,u137,u138,u139,u140,u141,u142,u143,u144,u145,u146,u147,u148,u149,u150,u151,u152,u153,u154,u155,u156,u157,u158,u159,u160,u161,u162,u163,
  u164,u165,u166,u167,u168,u169,u170,u171,u172,u173,u174,u175,u176,u177,u178,u179,u180,u181,u182,u183,u184,u185,u186,u187,u188,u189,u190,u191,u192,u193,
  u194,u195,u196,v197,v198],[]⟩ (W.setRow bC (rdC 0 0))) :
 (Code.region 37 ops false).wp Try.prog (Exit.then K Q')
  ⟨#[u0, u1, u2, .pointer (some ⟨bC, 0, none⟩), u4, u5, u6, u7, u8, u9, u10, u11, u12, u13, u14, u15, u16, u17, u18, u19, u20, u21, u22, u23, u24, u25, u26, u27, u28, u29, u30, u31, u32,
  u33,u34,u35,u36,u37,u38,u39,u40,u41,u42,u43,u44,u45,u46,u47,u48,u49,u50,u51,u52,u53,u54,u55,u56,u57,u58,u59,u60,u61,u62,u63,u64,u65,u66,u67,u68,
  u69,u70,u71,u72,u73,u74,u75,u76,u77,u78,u79,u80,u81,u82,u83,u84,u85,u86,u87,u88,u89,u90,u91,u92,u93,u94,u95,u96,u97,u98,u99,u100,u101,u102,u103,
  u104,u105,u106,u107,u108,u109,u110,u111,u112,u113,u114,u115,u116,u117,u118,u119,u120,u121,u122,u123,u124,u125,u126,u127,u128,u129,u130,u131,u132,u133,
  u134,u135,u136,u137,u138,u139,u140,u141,u142,u143,u144,u145,u146,u147,u148,u149,u150,u151,u152,u153,u154,u155,u156,u157,u158,u159,u160,u161,u162,u163,
  u164,u165,u166,u167,u168,u169,u170,u171,u172,u173,u174,u175,u176,u177,u178,u179,u180,u181,u182,u183,u184,u185,u186,u187,u188,u189,u190,u191,u192,u193,
  u194,u195,u196,u197,u198],[]⟩ W:=by
 rw [hops]
 clear hops ops
 simp only [dZf,Try.f31,Option.bind,opsIn,Nat.reduceBEq,Bool.false_eq_true,↓reduceIte,Option.getD]
 have HK:=hid_ hK
 have HF:=hid_ hF
 clear hK hF
 go_wp2_with ((with_reducible refine aZM (t:=41) (p:=3) rfl ?_);refine wpList_store_row rfl 41 (.tmp 3) (.tmp 198) rfl bC (rdC 0 0) rfl rfl 41 (rdC 0 0) HF.out (bZL 0 0) (bZX 0 0 0 0) (cZW 0 0) ?_)
 exact HK.out _ _
theorem nxt_ {W W2:World} {k:Nat} {o:Obj} (h:W.heap[k]?=some o) (hb:Below W.heap.size W W2):W2.heap[k]?=some o:=(hb.block _ (aZd h)).trans h
theorem dZW {W:World} {X t:Nat} {a b c d e f g:Value} (h:W.heap[X]?=some (.cells #[a,b,c,d,e,f,g] t (0,0))):W.cell? ⟨X,0,none⟩=some a∧W.cell? ⟨X,1,none⟩=some b∧W.cell? ⟨X,2,none⟩=some c∧W.cell? ⟨X,3,none⟩=some d∧W.cell? ⟨X,4,none⟩=some e∧W.cell? ⟨X,5,none⟩=some f∧W.cell? ⟨X,6,none⟩=some g:=by simp [World.cell?,h]
theorem fZD (w:World) (A0 A1 A2 A3 A4:Option Addr) (c0 c1 c2 c3 c4 n0 n1 n2 n3 n4:Nat) (C:List S66) (dep loc what n:Int) (h0:0≤what) (h1:what≤8) :
 Calls Try.prog 97 #[.agg #[.slice A0 n0 c0,.slice A1 n1 c1,.slice A2 n2 c2,.slice A3 n3 c3,.slice A4 n4 c4,.int .i64 dep,.int .i64 loc],.int .i64 what,.int .i64 n] w fun e w'=>e=.returned (.bool (bZH (K0 n0 n1 n2 n3 C dep loc) (letR what) n))∧Below w.heap.size w w':=by
 have hb:=aZb (Below.refl w.heap.size w) (.cells #[.slice A0 n0 c0,.slice A1 n1 c1,.slice A2 n2 c2,.slice A3 n3 c3,.slice A4 n4 c4,.int .i64 dep,.int .i64 loc] 28)
 obtain ⟨x0,x1,x2,x3,x4,x5,x6⟩:=dZW (heap_alloc_new w (.cells #[.slice A0 n0 c0,.slice A1 n1 c1,.slice A2 n2 c2,.slice A3 n3 c3,.slice A4 n4 c4,.int .i64 dep,.int .i64 loc] 28))
 have HB:=hid_ hb
 clear hb
 have hw:what=0∨what=1∨what=2∨what=3∨what=4∨what=5∨what=6∨what=7∨what=8:=by omega
 clear h0 h1
 by_cases a0:n=0
 ·
  subst a0
  rcases hw with rfl|rfl|rfl|rfl|rfl|rfl|rfl|rfl|rfl
  all_goals (
   go_enter Try.func97,Try.ntmps97
   go_wp2_with (fail)
   go_ret
   exact ⟨by simp [bZH,letR,K0],HB.out⟩)
 ·
  have b0:(n == 0)=false:=beq_eq_false_iff_ne.2 a0
  by_cases a1:0≤n
  ·
   have b1:decide (n≥0)=true:=decide_eq_true a1
   have b2:decide (n≥1)=true:=decide_eq_true (by omega)
   have b3:1≤n:=by omega
   rcases hw with rfl|rfl|rfl|rfl|rfl|rfl|rfl|rfl|rfl
   all_goals (
    go_enter Try.func97,Try.ntmps97
    go_wp2_with (fail)
    go_ret
    exact ⟨by simp [bZH,letR,K0,a0,a1,b3,Bool.beq_eq_decide_eq],HB.out⟩)
  ·
   have b1:decide (n≥0)=false:=decide_eq_false a1
   have b2:decide (n≥1)=false:=decide_eq_false (by omega)
   have b3:¬ 1≤n:=by omega
   have b4:¬n=1:=by omega
   have hD:∀ m:Int,decide (0≤n∧n<m)=false:=fun m=>decide_eq_false (fun h=>a1 h.1)
   rcases hw with rfl|rfl|rfl|rfl|rfl|rfl|rfl|rfl|rfl
   all_goals (
    go_enter Try.func97,Try.ntmps97
    go_wp2_with (fail)
    go_ret
    exact ⟨by first|(simp [bZH,letR,K0,a0,b4];done)|(simp [bZH,letR,K0,a0,b4];first|exact hD _|(intro h;omega)),HB.out⟩)
theorem early_any (w:World) (A0 A1 A2 A3 A4:Option Addr) (c0 c1 c2 c3 c4 n0 n1 n2 n3:Nat) (C:List S66) (dep loc:Int) (i:Nat) (hC:Kd.C k66 w A4 C.length C) (hi:i<C.length) (hn:C.length≤32768) :
 Calls Try.prog 56 #[.agg #[.slice A0 n0 c0,.slice A1 n1 c1,.slice A2 n2 c2,.slice A3 n3 c3,.slice A4 C.length c4,.int .i64 dep,.int .i64 loc],.int .i64 i] w fun e w'=>e=.returned (.int .i64 (bZx (K0 n0 n1 n2 n3 C dep loc) i))∧Below w.heap.size w w':=by
 have hb:=aZb (Below.refl w.heap.size w) (.cells #[.slice A0 n0 c0,.slice A1 n1 c1,.slice A2 n2 c2,.slice A3 n3 c3,.slice A4 C.length c4,.int .i64 dep,.int .i64 loc] 28)
 have p0:=heap_alloc_new w (.cells #[.slice A0 n0 c0,.slice A1 n1 c1,.slice A2 n2 c2,.slice A3 n3 c3,.slice A4 C.length c4,.int .i64 dep,.int .i64 loc] 28)
 go_enter Try.func56,Try.ntmps56
 go_upto_region 1 with (fail)
 generalize w.alloc (.cells #[.slice A0 n0 c0,.slice A1 n1 c1,.slice A2 n2 c2,.slice A3 n3 c3,.slice A4 C.length c4,.int .i64 dep,.int .i64 loc] 28)=W at hb p0 ⊢
 obtain ⟨x0,x1,x2,x3,x4,x5,x6⟩:=dZW p0
 have hC1:=Kd.C_below hC hb
 have HB:=hid_ (And.intro hb p0)
 obtain ⟨ad,rfl,k0,k1,k2,k3⟩:=eZd hC1 (i:Int) (by omega) (by omega)
 rw [Int.toNat_natCast] at k0 k1 k2 k3
 obtain ⟨x,hx⟩:∃ x,x=aZg C i:=⟨_,rfl⟩
 rw [←hx] at k0 k1 k2 k3
 have HX:=hid_ hx
 have i0:(0:Int)≤(i:Int):=by omega
 have i1:(i:Int)<(C.length:Int):=by omega
 clear hb p0 hC hC1 hx
 go_upto_region 2 with (fail)
 have hb2:=aZb (Below.refl W.heap.size W) (.cells #[.int .i64 x.f0,.int .i64 x.f1,.int .i64 x.f2,.int .i64 x.f3] 66)
 have p5:=heap_alloc_new W (.cells #[.int .i64 x.f0,.int .i64 x.f1,.int .i64 x.f2,.int .i64 x.f3] 66)
 have HB2:=hid_ (And.intro (HB.out.1.trans (hb2.mono HB.out.1.size)) (And.intro (nxt_ HB.out.2 hb2) p5))
 clear x0 x1 x2 x3 x4 x5 x6 k0 k1 k2 k3 HB hb2 p5
 generalize W.alloc (.cells #[.int .i64 x.f0,.int .i64 x.f1,.int .i64 x.f2,.int .i64 x.f3] 66)=W2 at HB2 ⊢
 generalize W.heap.size=b5 at HB2 ⊢
 have hk:(K0 n0 n1 n2 n3 C dep loc).C=C:=rfl
 by_cases ho:x.f0<1∨36<x.f0
 ·
  have HF:=hid_ (show bZx (K0 n0 n1 n2 n3 C dep loc) i=211 by unfold bZx;rw [hk,←HX.out,if_pos ho])
  obtain ⟨y0,y1,y2,y3⟩:=dZs HB2.out.2.2
  by_cases h1:x.f0<1
  ·
   have d0:decide (x.f0<1)=true:=decide_eq_true h1
   clear ho
   go_wp2_with (fail)
   go_ret
   rw [HF.out]
   exact ⟨rfl,HB2.out.1⟩
  ·
   have d0:decide (x.f0<1)=false:=decide_eq_false h1
   have d1:decide (x.f0 > 36)=true:=decide_eq_true (ho.resolve_left h1)
   clear ho h1
   go_wp2_with (fail)
   go_ret
   rw [HF.out]
   exact ⟨rfl,HB2.out.1⟩
 ·
  obtain ⟨a,b,c,ho8,g1,g2,g3,g4,g5,g6,g7,g8,g9,g10⟩:=opers_f x.f0 (by omega) (by omega)
  have ho10:berthref21_Operands.f 10 x.f0=some (a,b,c):=berthref21_Operands.mono _ 9 _ (berthref21_Operands.mono _ 8 _ ho8)
  have hF:bZx (K0 n0 n1 n2 n3 C dep loc) i=if bZH (K0 n0 n1 n2 n3 C dep loc) (letR a) x.f1=false∨bZH (K0 n0 n1 n2 n3 C dep loc) (letR b) x.f2=false∨bZH (K0 n0 n1 n2 n3 C dep loc) (letR c) x.f3=false then 212 else cZU C.length i x.f0 x.f1:=by
   unfold bZx
   rw [hk,←HX.out,if_neg ho,g7,g8,g9]
  have d0:decide (x.f0<1)=false:=decide_eq_false (by omega)
  have d1:decide (x.f0 > 36)=false:=decide_eq_false (by omega)
  have HOP:=hid_ (And.intro (show 1≤x.f0 by omega) (show x.f0≤36 by omega))
  obtain ⟨y0,y1,y2,y3⟩:=dZs HB2.out.2.2
  have HG:=hid_ (And.intro hF g10)
  clear ho hF g7 g8 g9 g10 ho8 hk
  go_wp2_with (fail)
  clear y0 y1 y2 y3 d0 d1
  refine (show Calls _ _ _ _ _ from fZV x.f0 W2 HOP.out.1 HOP.out.2 a b c ho10).mono ?_
  rintro e W3 ⟨rfl,bel⟩
  have HB3:=hid_ (And.intro (HB2.out.1.trans (bel.mono HB2.out.1.size)) (And.intro (nxt_ HB2.out.2.1 bel) (nxt_ HB2.out.2.2 bel)))
  clear HB2 bel ho10
  obtain ⟨x0,x1,x2,x3,x4,x5,x6⟩:=dZW HB3.out.2.1
  obtain ⟨y0,y1,y2,y3⟩:=dZs HB3.out.2.2
  go_wp2_with (fail)
  clear x0 x1 x2 x3 x4 x5 x6 y0 y1 y2 y3
  refine (show Calls _ _ _ _ _ from fZD W3 A0 A1 A2 A3 (some ad) c0 c1 c2 c3 c4 n0 n1 n2 n3 C.length C dep loc a x.f1 g1 g2).mono ?_
  rintro e W4 ⟨rfl,bel⟩
  have HB4:=hid_ (And.intro (HB3.out.1.trans (bel.mono HB3.out.1.size)) (And.intro (nxt_ HB3.out.2.1 bel) (nxt_ HB3.out.2.2 bel)))
  clear HB3 bel
  obtain ⟨x0,x1,x2,x3,x4,x5,x6⟩:=dZW HB4.out.2.1
  obtain ⟨y0,y1,y2,y3⟩:=dZs HB4.out.2.2
  go_wp2_with (fail)
  clear x0 x1 x2 x3 x4 x5 x6 y0 y1 y2 y3
  refine (show Calls _ _ _ _ _ from fZD W4 A0 A1 A2 A3 (some ad) c0 c1 c2 c3 c4 n0 n1 n2 n3 C.length C dep loc b x.f2 g3 g4).mono ?_
  rintro e W6 ⟨rfl,bel⟩
  have HB6:=hid_ (And.intro (HB4.out.1.trans (bel.mono HB4.out.1.size)) (And.intro (nxt_ HB4.out.2.1 bel) (nxt_ HB4.out.2.2 bel)))
  clear HB4 bel
  obtain ⟨x0,x1,x2,x3,x4,x5,x6⟩:=dZW HB6.out.2.1
  obtain ⟨y0,y1,y2,y3⟩:=dZs HB6.out.2.2
  go_wp2_with (fail)
  clear x0 x1 x2 x3 x4 x5 x6 y0 y1 y2 y3
  refine (show Calls _ _ _ _ _ from fZD W6 A0 A1 A2 A3 (some ad) c0 c1 c2 c3 c4 n0 n1 n2 n3 C.length C dep loc c x.f3 g5 g6).mono ?_
  rintro e W7 ⟨rfl,bel⟩
  have HB7:=hid_ (And.intro (HB6.out.1.trans (bel.mono HB6.out.1.size)) (And.intro (nxt_ HB6.out.2.1 bel) (nxt_ HB6.out.2.2 bel)))
  clear HB6 bel
  clear g1 g2 g3 g4 g5 g6
  have hG:=HG.out
  generalize bZH (K0 n0 n1 n2 n3 C dep loc) (letR a) x.f1=ba at hG ⊢
  generalize bZH (K0 n0 n1 n2 n3 C dep loc) (letR b) x.f2=bb at hG ⊢
  generalize bZH (K0 n0 n1 n2 n3 C dep loc) (letR c) x.f3=bc at hG ⊢
  obtain ⟨R,hR⟩:∃ R,R=bZx (K0 n0 n1 n2 n3 C dep loc) i:=⟨_,rfl⟩
  rw [←hR] at hG
  have HRR:=hid_ hR
  clear hR
  have HG:=hid_ hG
  clear hG
  obtain ⟨m,hm⟩:∃ m:Nat,m=C.length - 1:=⟨_,rfl⟩
  have w1:IntKind.i64.wrap ((C.length:Int) - 1)=(m:Int):=by rw [show (C.length:Int) - 1=(m:Int) by omega];exact IntWalk.i64_in _ ⟨by omega,by omega⟩
  have w2:wrap64 ((C.length:Int) - 1)=(m:Int):=by unfold wrap64;omega
  have HM:=hid_ (show i+1=C.length↔i=m by omega)
  obtain ⟨x0,x1,x2,x3,x4,x5,x6⟩:=dZW HB7.out.2.1
  obtain ⟨y0,y1,y2,y3⟩:=dZs HB7.out.2.2
  clear hm hi hn
  cases ba with
  | false =>
   have HF:=hid_ (show R=212 by rw [HG.out.1,if_pos (.inl rfl)])
   go_wp2_with (fail)
   go_ret
   rw [←HRR.out,HF.out]
   exact ⟨rfl,HB7.out.1⟩
  | true =>
  cases bb with
  | false =>
   have HF:=hid_ (show R=212 by rw [HG.out.1,if_pos (.inr (.inl rfl))])
   go_wp2_with (fail)
   go_ret
   rw [←HRR.out,HF.out]
   exact ⟨rfl,HB7.out.1⟩
  | true =>
  cases bc with
  | false =>
   have HF:=hid_ (show R=212 by rw [HG.out.1,if_pos (.inr (.inr rfl))])
   go_wp2_with (fail)
   go_ret
   rw [←HRR.out,HF.out]
   exact ⟨rfl,HB7.out.1⟩
  | true =>
  have HR:=hid_ (show R=cZU C.length i x.f0 x.f1 by rw [HG.out.1,if_neg (by decide)])
  have key:∀ (t:Bool),t=decide (a=7∧(x.f1≤i∨C.length≤x.f1))→R=if t=true then 213 else if x.f0=36↔i=m then 0 else 219:=fun t ht=>by
   rw [HR.out,ht]
   unfold cZU
   have h10:=HG.out.2
   have hm:=HM.out
   by_cases q:a=7∧(x.f1≤i∨(C.length:Int)≤x.f1)
   · rw [if_pos ⟨h10.1 q.1,q.2⟩,decide_eq_true q,if_pos rfl]
   ·
    rw [if_neg (fun h=>q ⟨h10.2 h.1,h.2⟩),decide_eq_false q,if_neg Bool.false_ne_true]
    simp only [hm]
  have KEY:=hid_ key
  clear key
  by_cases q1:a=7∧(x.f1≤i∨(C.length:Int)≤x.f1)
  ·
   have HF:=hid_ (show R=213 by rw [KEY.out true (decide_eq_true q1).symm,if_pos rfl])
   have b7:(a == 7)=true:=beq_iff_eq.2 q1.1
   by_cases q2:x.f1≤i
   ·
    have d2:decide (x.f1≤(i:Int))=true:=decide_eq_true q2
    clear q1
    go_wp2_with (fail)
    go_ret
    rw [←HRR.out,HF.out]
    exact ⟨rfl,HB7.out.1⟩
   ·
    have d2:decide (x.f1≤(i:Int))=false:=decide_eq_false q2
    have d3:decide (x.f1≥(C.length:Int))=true:=decide_eq_true (q1.2.resolve_left q2)
    clear q1 q2
    go_wp2_with (fail)
    go_ret
    rw [←HRR.out,HF.out]
    exact ⟨rfl,HB7.out.1⟩
  ·
   have HR2:=hid_ (show R=if x.f0=36↔i=m then 0 else 219 by rw [KEY.out false (decide_eq_false q1).symm,if_neg Bool.false_ne_true])
   by_cases e7:a=7
   ·
    have b7:(a == 7)=true:=beq_iff_eq.2 e7
    have d2:decide (x.f1≤(i:Int))=false:=decide_eq_false (fun h=>q1 ⟨e7,.inl h⟩)
    have d3:decide (x.f1≥(C.length:Int))=false:=decide_eq_false (fun h=>q1 ⟨e7,.inr h⟩)
    clear q1 e7
    by_cases e36:x.f0=36
    ·
     have b36:(x.f0 == 36)=true:=beq_iff_eq.2 e36
     by_cases ei:i=m
     ·
      have HF:=hid_ (show R=0 by rw [HR2.out,if_pos ⟨fun _=>ei,fun _=>e36⟩])
      have bi:((i:Int) == (m:Int))=true:=by rw [beq_iff_eq];omega
      have bn:(i == m)=true:=beq_iff_eq.2 ei
      clear e36 ei
      go_wp2_with (fail)
      go_ret
      rw [←HRR.out,HF.out]
      exact ⟨rfl,HB7.out.1⟩
     ·
      have HF:=hid_ (show R=219 by rw [HR2.out,if_neg (fun h=>ei (h.1 e36))])
      have bi:((i:Int) == (m:Int))=false:=by rw [beq_eq_false_iff_ne];omega
      have bn:(i == m)=false:=beq_eq_false_iff_ne.2 ei
      clear e36 ei
      go_wp2_with (fail)
      go_ret
      rw [←HRR.out,HF.out]
      exact ⟨rfl,HB7.out.1⟩
    ·
     have b36:(x.f0 == 36)=false:=beq_eq_false_iff_ne.2 e36
     by_cases ei:i=m
     ·
      have HF:=hid_ (show R=219 by rw [HR2.out,if_neg (fun h=>e36 (h.2 ei))])
      have bi:((i:Int) == (m:Int))=true:=by rw [beq_iff_eq];omega
      have bn:(i == m)=true:=beq_iff_eq.2 ei
      clear e36 ei
      go_wp2_with (fail)
      go_ret
      rw [←HRR.out,HF.out]
      exact ⟨rfl,HB7.out.1⟩
     ·
      have HF:=hid_ (show R=0 by rw [HR2.out,if_pos ⟨fun h=>absurd h e36,fun h=>absurd h ei⟩])
      have bi:((i:Int) == (m:Int))=false:=by rw [beq_eq_false_iff_ne];omega
      have bn:(i == m)=false:=beq_eq_false_iff_ne.2 ei
      clear e36 ei
      go_wp2_with (fail)
      go_ret
      rw [←HRR.out,HF.out]
      exact ⟨rfl,HB7.out.1⟩
   ·
    have b7:(a == 7)=false:=beq_eq_false_iff_ne.2 e7
    clear q1 e7
    by_cases e36:x.f0=36
    ·
     have b36:(x.f0 == 36)=true:=beq_iff_eq.2 e36
     by_cases ei:i=m
     ·
      have HF:=hid_ (show R=0 by rw [HR2.out,if_pos ⟨fun _=>ei,fun _=>e36⟩])
      have bi:((i:Int) == (m:Int))=true:=by rw [beq_iff_eq];omega
      have bn:(i == m)=true:=beq_iff_eq.2 ei
      clear e36 ei
      go_wp2_with (fail)
      go_ret
      rw [←HRR.out,HF.out]
      exact ⟨rfl,HB7.out.1⟩
     ·
      have HF:=hid_ (show R=219 by rw [HR2.out,if_neg (fun h=>ei (h.1 e36))])
      have bi:((i:Int) == (m:Int))=false:=by rw [beq_eq_false_iff_ne];omega
      have bn:(i == m)=false:=beq_eq_false_iff_ne.2 ei
      clear e36 ei
      go_wp2_with (fail)
      go_ret
      rw [←HRR.out,HF.out]
      exact ⟨rfl,HB7.out.1⟩
    ·
     have b36:(x.f0 == 36)=false:=beq_eq_false_iff_ne.2 e36
     by_cases ei:i=m
     ·
      have HF:=hid_ (show R=219 by rw [HR2.out,if_neg (fun h=>e36 (h.2 ei))])
      have bi:((i:Int) == (m:Int))=true:=by rw [beq_iff_eq];omega
      have bn:(i == m)=true:=beq_iff_eq.2 ei
      clear e36 ei
      go_wp2_with (fail)
      go_ret
      rw [←HRR.out,HF.out]
      exact ⟨rfl,HB7.out.1⟩
     ·
      have HF:=hid_ (show R=0 by rw [HR2.out,if_pos ⟨fun h=>absurd h e36,fun h=>absurd h ei⟩])
      have bi:((i:Int) == (m:Int))=false:=by rw [beq_eq_false_iff_ne];omega
      have bn:(i == m)=false:=beq_eq_false_iff_ne.2 ei
      clear e36 ei
      go_wp2_with (fail)
      go_ret
      rw [←HRR.out,HF.out]
      exact ⟨rfl,HB7.out.1⟩
end Go.Proofs.Ytbnplhmmbnmagaa.D
