/- The document's audit: a place more that jumps to another: into[a] = append(into[a], i), in the heap. -/
import Derived.Test.YtbnplhmmbnmagaazAMm20
import Derived.Test.YtbnplhmmbnmagaazAMm19
import Derived.Test.YtbnplhmmbnmagaazAMm18
set_option maxHeartbeats 4000000
set_option maxRecDepth 100000
set_option linter.all false
namespace Go.Proofs.Ytbnplhmmbnmagaa.D
open Go.RowKit Go.Proofs.YtbnplhmmbnmagaaW.PrintWords Go.Proofs.YtbnplhmmbnmagaaW.PrintLast Go.Proofs.YtbnplhmmbnmagaaW.PrintMore Go.Proofs.Ytbnplhmmbnmagaa.All
theorem into_push {W:World} {base gi n ci:Nat} {I:Nat→Prop} {into:List (List Int)} (h:Kd.S kIn 23 W base I (.slice (some ⟨gi,0,none⟩) n ci) into) (A:Nat) (hA:A<n) :
    ∃ (oki:Nat→Prop) (Au:Option Addr) (cu:Nat),W.cell? ⟨gi,A,none⟩=some (.slice Au (into.getD A []).length cu)∧W.frozen? ⟨gi,A,none⟩=false∧(Kd.int .i64).R 3 W base oki (.slice Au (into.getD A []).length cu) (into.getD A [])∧I gi∧gi<W.heap.size∧(∃ cells,W.heap[gi]?=some (.cells cells 23 (0,0))) ∧
      (∀ k,(Value.slice Au (into.getD A []).length cu).ownBlock=some k→I k∧∃ cells,W.heap[k]?=some (.cells cells 3 (0,0))) ∧
      ∀ (Wa w1:World) (v1:Value) (l':List Int),Below W.heap.size W Wa→(Kd.int .i64).R 3 w1 base (fun k=>oki k∨Wa.heap.size≤k) v1 l'→Wa.grownBy w1 (Value.slice Au (into.getD A []).length cu).ownBlock →
        Kd.S kIn 23 (w1.setCell ⟨gi,A,none⟩ v1) base (fun k=>I k∨W.heap.size≤k) (.slice (some ⟨gi,0,none⟩) n ci) (into.set A l'):=by
  have hn:=(Kd.S_reads' h).1
  obtain ⟨g',cap',hv,-,hglt,cells,hcells⟩:=Kd.S_form h (by omega)
  injection hv with hv _ _
  injection hv with hv
  injection hv with hv _ _
  subst hv
  have hIg:I gi:=(Kd.S_R h).1 gi rfl
  obtain ⟨oki0,c0,-,hM0,hcc0,hfr0,hoki0,-⟩:=Kd.S_elem h [] (A:Int) (by omega) (by omega)
  have h':=Kd.S_mono (ok':=fun k=>I k∨W.heap.size≤k) h (fun _ hk=>.inl hk)
  obtain ⟨oki,c,hcl,hM,hcc,hfr,hoki,hH⟩:=Kd.S_elem h' [] (A:Int) (by omega) (by omega)
  rw [Int.toNat_natCast] at hM hcc hfr hM0 hcc0
  obtain ⟨u,rfl,hR⟩:=hM
  obtain ⟨u0,rfl,hR0⟩:=hM0
  have hcu:=hcc 0 u rfl
  have hcu0:=hcc0 0 u0 rfl
  have hfu:=hfr 0
  rw [show A*kIn.sz+0=A by simp [kIn,Kd.slice]] at hcu hfu hcu0
  rw [hcu] at hcu0
  injection hcu0 with hcu0
  subst hcu0
  obtain ⟨Au,cu,rfl⟩:=Kd.R_slice hR
  refine ⟨oki,Au,cu,hcu,hfu,hR,hIg,hglt,⟨cells,hcells⟩,fun k hk=>⟨(hoki0 k (hR0.1 k hk)).1,bZd (Kd.R_own hR).choose_spec k hk⟩,?_⟩
  intro Wa w1 v1 l' hb hR1 hg
  have hrow:∀ k,(Value.slice Au (into.getD A []).length cu).ownBlock=some k→oki k:=fun k hk=>hR.1 k hk
  have hge:some gi≠(Value.slice Au (into.getD A []).length cu).ownBlock:=fun e=>by
    obtain ⟨cells3,hc3⟩:=bZd (Kd.R_own hR).choose_spec gi e.symm
    rw [hcells] at hc3
    cases hc3
  have hgw1:w1.heap[gi]?=some (.cells cells 23 (0,0)):=(hg.block gi (Nat.lt_of_lt_of_le hglt hb.size) hge).trans ((hb.block gi hglt).trans hcells)
  have hH1:=Kd.H_grown (Kd.H_widen (Kd.H_below hH hb)) hg (fun k hk=>.inl (hrow k hk))
  obtain ⟨q0,q1,hv1⟩:∃ q0 q1,v1=.slice q0 q1 0∨True:=⟨none,0,.inr trivial⟩
  obtain ⟨A1,c1,rfl⟩:=Kd.R_slice hR1
  obtain ⟨hH2,-⟩:=Kd.H_seg hH1 (by omega) (by omega) (seg:=[.slice A1 l'.length c1]) (j:=0) (by simp [kIn,Kd.slice]) (by intro q hq;rw [List.mem_singleton.1 hq];rfl)
  have hfin:(Kd.int .i64).R 3 (w1.setCell ⟨gi,A,none⟩ (.slice A1 l'.length c1)) base (fun k=>oki k∨Wa.heap.size≤k) (.slice A1 l'.length c1) l':=Kd.R_set hR1 hgw1 (by decide) A _
  have he:w1.setCells gi ((A:Int).toNat*kIn.sz+0) [.slice A1 l'.length c1]=w1.setCell ⟨gi,A,none⟩ (.slice A1 l'.length c1):=by
    rw [show (A:Int).toNat*kIn.sz+0=A by simp [kIn,Kd.slice]]
    rfl
  rw [he] at hH2
  have hback:=Kd.H_back (x':=l') (okp:=fun k=>oki k∨Wa.heap.size≤k) hH2 ⟨.slice A1 l'.length c1,by simp,hfin⟩ (fun k hk=>hk.elim .inl (fun hk=>.inr ⟨.inr (Nat.le_trans hb.size hk),hk⟩))
  rw [Int.toNat_natCast] at hback
  exact hback
theorem dZR {W W2:World} {b j:Nat} (h:W2.heap[b]?=W.heap[b]?):W2.cell? ⟨b,j,none⟩=W.cell? ⟨b,j,none⟩:=by simp [World.cell?,h]
theorem froz_same {W W2:World} {b j:Nat} (h:W2.heap[b]?=W.heap[b]?):W2.frozen? ⟨b,j,none⟩=W.frozen? ⟨b,j,none⟩:=by simp [World.frozen?,h]
def walk.T34:Bool × List (List Nat × List Nat):=(true,[([],[]),([],[]),([1],[1]),([],[]),([],[]),([4],[4]),([3,5],[3,5]),([6],[6]),([],[]),([8],[8]),([7,9],[7,9]),([0,2,0,1,2,3,4,5,6,7,8,9,10],[0,2]),([11,10,10,0,1,2,3,4,5,6,7,8,9,10],[10,11])])
def walk.B34:List Nat:=[0,0,2,0,0,16,56,120,0,256,1016,2047,4095]
theorem walk.tab34:rtab .any (cZt Try.f31 34)=walk.T34:=by kernel_rfl
theorem walk.bits34:bZy walk.T34.2 walk.B34=true:=by kernel_rfl
theorem walk_r34 {u0 u1 u2 u3 u4 u6 u7 u10 u11 u12 u13 u14 u15 u16 u17 u18 u19 u20 u21 u22 u23 u24 u25 u26 u27 u28 u29 u30 u31 u32 u33 u34 u35 u36 u37 u38 u39 u40 u41 u42 u43 u44 u45 u46 u47 u48 u49 u50 u51 u52 u53 u54 u55 u56 u57 u58 u59 u60 u61 u62 u63 u64 u65 u66 u67 u68 u69 u70 u71 u72 u73 u74 u75 u76 u77 u78 u79 u80 u81 u82 u83 u84 u85 u86 u87 u88 u89 u90 u91 u92 u93 u94 u95 u96 u97 u98 u99 u100 u101 u102 u103 u104 u105 u106 u107 u108 u109 u110 u111 u112 u113 u114 u115 u116 u117 u118 u119 u120 u121 u122 u123 u124 u125 u126 u127 u128 u129 u130 u131 u132 u133 u134 u135 u136 u137 u138 u139 u140 u141 u142 u143 u144 u145 u146 u147 u148 u149 u150 u151 u152 u153 u154 u155 u156 u157 u158 u159 u160 u161 u162 u163 u164 u165 u166 u167 u168 u169 u170 u171 u172 u173 u174 u175 u176 u177 u178 u179 u180 u181 u182 u183 u184 u185 u186 u187 u188 u189 u190 u191 u192 u193 u194 u195 u196 u197 u198:Value} {K:Act→World→Prop} {Q':Exit→Act→World→Prop} {ops:Array Oper} (hops:ops=cZt Try.f31 34) {W:World} {base gi n ci bx i cu:Nat} {A:Int} {Au:Option Addr} {l:List Int} {oki:Nat→Prop}
 (hx:W.cell? ⟨bx,1,none⟩=some (.int .i64 A)) (hg:W.cell? ⟨gi,A.toNat,none⟩=some (.slice Au l.length cu)) (hf:W.frozen? ⟨gi,A.toNat,none⟩=false) (hR:(Kd.int .i64).R 3 W base oki (.slice Au l.length cu) l) (hbx:some bx≠(Value.slice Au l.length cu).ownBlock) (hbg:some gi≠(Value.slice Au l.length cu).ownBlock) (hA0:0≤A) (hA1:A<n) (hb:base≤W.heap.size) (hl:l.length≤100000)
 (hQ:∀ c (a:Act) i v w,Q' (.panic c) (a.put (some i) v) w→Q' (.panic c) a w)
 (hK : ∀ (v177 v178 v179 v180 v181 v182 v183 v184 v185 v186 v187 v188 : Value) (A2 : Option Addr) (c2 : Nat) (w1 : World), (Kd.int .i64).R 3 w1 base (fun k => oki k ∨ W.heap.size ≤ k) (.slice A2 (l.length + 1) c2) (l ++ [(i : Int)]) → W.drew.grownBy w1 (Value.slice Au l.length cu).ownBlock → K
  ⟨#[u0, u1, u2, u3, u4, .slice (some ⟨gi, 0, none⟩) n ci, u6, u7, .int .i64 (i : Int), .pointer (some ⟨bx, 0, none⟩), u10, u11, u12, u13, u14, u15, u16, u17, u18, u19, u20, u21, u22,
  u23,u24,u25,u26,u27,u28,u29,u30,u31,u32,u33,u34,u35,u36,u37,u38,u39,u40,u41,u42,u43,u44,u45,u46,u47,u48,u49,u50,u51,u52,u53,u54,u55,u56,u57,u58,
  u59,u60,u61,u62,u63,u64,u65,u66,u67,u68,u69,u70,u71,u72,u73,u74,u75,u76,u77,u78,u79,u80,u81,u82,u83,u84,u85,u86,u87,u88,u89,u90,u91,u92,u93,u94,
  u95,u96,u97,u98,u99,u100,u101,u102,u103,u104,u105,u106,u107,u108,u109,u110,u111,u112,u113,u114,u115,u116,u117,u118,u119,u120,u121,u122,u123,u124,u125,
  u126,u127,u128,u129,u130,u131,u132,u133,u134,u135,u136,u137,u138,u139,u140,u141,u142,u143,u144,u145,u146,u147,u148,u149,u150,u151,u152,u153,u154,u155,
  u156,u157,u158,u159,u160,u161,u162,u163,u164,u165,u166,u167,u168,u169,u170,u171,u172,u173,u174,u175,u176,v177,v178,v179,v180,v181,v182,v183,v184,v185,
  v186,v187,v188,u189,u190,u191,u192,u193,u194,u195,u196,u197,u198],[]⟩ (w1.setCell ⟨gi,A.toNat,none⟩ (.slice A2 (l.length+1) c2))) :
 (Code.region 34 ops true).wp Try.prog (Exit.then K Q')
  ⟨#[u0, u1, u2, u3, u4, .slice (some ⟨gi, 0, none⟩) n ci, u6, u7, .int .i64 (i : Int), .pointer (some ⟨bx, 0, none⟩), u10, u11, u12, u13, u14, u15, u16, u17, u18, u19, u20, u21, u22,
  u23,u24,u25,u26,u27,u28,u29,u30,u31,u32,u33,u34,u35,u36,u37,u38,u39,u40,u41,u42,u43,u44,u45,u46,u47,u48,u49,u50,u51,u52,u53,u54,u55,u56,u57,u58,
  u59,u60,u61,u62,u63,u64,u65,u66,u67,u68,u69,u70,u71,u72,u73,u74,u75,u76,u77,u78,u79,u80,u81,u82,u83,u84,u85,u86,u87,u88,u89,u90,u91,u92,u93,u94,
  u95,u96,u97,u98,u99,u100,u101,u102,u103,u104,u105,u106,u107,u108,u109,u110,u111,u112,u113,u114,u115,u116,u117,u118,u119,u120,u121,u122,u123,u124,u125,
  u126,u127,u128,u129,u130,u131,u132,u133,u134,u135,u136,u137,u138,u139,u140,u141,u142,u143,u144,u145,u146,u147,u148,u149,u150,u151,u152,u153,u154,u155,
  u156,u157,u158,u159,u160,u161,u162,u163,u164,u165,u166,u167,u168,u169,u170,u171,u172,u173,u174,u175,u176,u177,u178,u179,u180,u181,u182,u183,u184,u185,
  u186,u187,u188,u189,u190,u191,u192,u193,u194,u195,u196,u197,u198],[]⟩ W:=by
 rw [hops]
 clear hops ops
 simp only [cZt,Try.f31,Option.bind,opsIn,Nat.reduceBEq,Bool.false_eq_true,↓reduceIte,Option.getD]
 have HK:=hid_ hK
 have HQ:=hid_ hQ
 have HR:=hid_ hR
 have HN:=hid_ (And.intro hbx (And.intro hbg (And.intro hb hf)))
 have HC:=hid_ (And.intro hx hg)
 have lx:=aZG hx
 have lg:=aZG hg
 have hAn:A.toNat<n:=by omega
 have HLX:=hid_ (And.intro lx lg)
 clear hK hQ hR hbx hbg hb hf hx hg lx lg
 refine cZ0 (n:=13) (S:=fun w'=>(w'.cell? ⟨bx,1,none⟩=some (.int .i64 A)∧w'.cell? ⟨gi,A.toNat,none⟩=some (.slice Au l.length cu))) (ds:=[12]) (bm 13 0) (by kernel_rfl) rfl (by kernel_rfl) ⟨HC.out.1,HC.out.2⟩ (fun hHeld=>?_)
 refine bZa walk.tab34 walk.bits34 (fun HT_ HW_=>?_)
 refine aZC (i:=0) (N:=some 177) (v:=?_) (a':=?_) (bm 13 1) rfl rfl (aZl HT_.out (by kernel_rfl)) (fun _ _ _ h=>HQ.out _ _ _ _ _ h) (Or.inl ⟨by rfl,?_⟩) ?_ ?_;rotate_left;(intro w';go_simp;with_reducible rfl);rotate_left;(simp only [Act.put,sZa,sZb,sZc];rfl)
 refine aZC (i:=1) (N:=some 178) (v:=?_) (a':=?_) (bm 13 3) rfl rfl (aZl HT_.out (by kernel_rfl)) (fun _ _ _ h=>HQ.out _ _ _ _ _ h) (Or.inl ⟨by rfl,?_⟩) ?_ ?_;rotate_left;(intro w';go_simp;with_reducible rfl);rotate_left;(simp only [Act.put,sZa,sZb,sZc];rfl)
 refine aZC (i:=3) (N:=some 180) (v:=?_) (a':=?_) (bm 13 11) rfl rfl (aZl HT_.out (by kernel_rfl)) (fun _ _ _ h=>HQ.out _ _ _ _ _ h) (Or.inl ⟨by rfl,?_⟩) ?_ ?_;rotate_left;(intro w';go_simp;with_reducible rfl);rotate_left;(simp only [Act.put,sZa,sZb,sZc];rfl)
 refine aZC (i:=4) (N:=some 181) (v:=?_) (a':=?_) (bm 13 27) rfl rfl (aZl HT_.out (by kernel_rfl)) (fun _ _ _ h=>HQ.out _ _ _ _ _ h) (Or.inl ⟨by rfl,?_⟩) ?_ ?_;rotate_left;(intro w';go_simp;with_reducible rfl);rotate_left;(simp only [Act.put,sZa,sZb,sZc];rfl)
 refine aZC (i:=8) (N:=some 185) (v:=?_) (a':=?_) (bm 13 283) rfl rfl (aZl HT_.out (by kernel_rfl)) (fun _ _ _ h=>HQ.out _ _ _ _ _ h) (Or.inl ⟨by rfl,?_⟩) ?_ ?_;rotate_left;(intro w';go_simp;with_reducible rfl);rotate_left;(simp only [Act.put,sZa,sZb,sZc];rfl)
 refine take_ (i:=2) (N:=some 179) (v:=?_) (a':=?_) (bm 13 287) rfl rfl (aZz HT_.out HW_.out (by kernel_rfl)) (fun _ _ _ h=>HQ.out _ _ _ _ _ h) (Or.inl ⟨by rfl,?_⟩) hHeld ?_ ?_
 rotate_left
 ·
  intro w' hS'
  obtain ⟨q0,q1⟩:=hS'
  go_simp
  with_reducible rfl
 rotate_left
 ·
  simp only [Act.put,sZa,sZb,sZc]
  rfl
 refine take_ (i:=5) (N:=some 182) (v:=?_) (a':=?_) (bm 13 319) rfl rfl (aZz HT_.out HW_.out (by kernel_rfl)) (fun _ _ _ h=>HQ.out _ _ _ _ _ h) (Or.inl ⟨by rfl,?_⟩) hHeld ?_ ?_
 rotate_left
 ·
  intro w' hS'
  obtain ⟨q0,q1⟩:=hS'
  go_simp
  with_reducible rfl
 rotate_left
 ·
  simp only [Act.put,sZa,sZb,sZc]
  rfl
 refine aZC (i:=6) (N:=some 183) (v:=?_) (a':=?_) (bm 13 383) rfl rfl (aZl HT_.out (by kernel_rfl)) (fun _ _ _ h=>HQ.out _ _ _ _ _ h) (Or.inl ⟨by rfl,?_⟩) ?_ ?_;rotate_left;(intro w';go_simp;with_reducible rfl);rotate_left;(simp only [Act.put,sZa,sZb,sZc];rfl)
 refine take_ (i:=7) (N:=some 184) (v:=?_) (a':=?_) (bm 13 511) rfl rfl (aZz HT_.out HW_.out (by kernel_rfl)) (fun _ _ _ h=>HQ.out _ _ _ _ _ h) (Or.inl ⟨by rfl,?_⟩) hHeld ?_ ?_
 rotate_left
 ·
  intro w' hS'
  obtain ⟨q0,q1⟩:=hS'
  go_simp
  with_reducible rfl
 rotate_left
 ·
  simp only [Act.put,sZa,sZb,sZc]
  rfl
 refine one_ (i:=9) (N:=some 186) (bm 13 1023) rfl rfl (aZU HT_.out (by kernel_rfl)) (by decide) (fun K hK=>?_)
 go_simp
 refine hK.out _ _ ⟨(dZR (heap_alloc_old W _ HLX.out.1)).trans HC.out.1,(dZR (heap_alloc_old W _ HLX.out.2)).trans HC.out.2⟩ (fun hHeld=>?_)
 clear hK K
 refine one_ (i:=10) (N:=some 187) (bm 13 2047) rfl rfl (aZU HT_.out (by kernel_rfl)) (by decide) (fun K hK=>?_)
 refine Kd.R_append_step (Kd.int .i64) (W:=W.drew) (w0:=W) base (by rfl) (.tmp 184) (.tmp 186) 23 3 (.int .i64 0) 8 rfl Try.underlying23 info3 rfl (by decide) (by omega) (.slice Au l.length cu) l (i:Int) [.int .i64 i] (fun k=>oki k∨W.heap.size≤k) (fun _=>False) rfl rfl rfl (fun _ hk=>hk.elim) (fun _ hk=>.inr hk) (Kd.R_mono (Kd.R_drew HR.out) (fun _ hk=>.inl hk)) (Below.refl _ _).drew HN.out.2.2.1 (by omega) ?_
 intro v1 w1 hr1 hb1 hg1 _
 obtain ⟨A2,c2,hv2⟩:=Kd.R_slice hr1
 rw [show (l++[(i:Int)]).length=l.length+1 by simp] at hv2
 subst hv2
 have hx1:w1.heap[bx]?=W.heap[bx]?:=hg1.block bx HLX.out.1 HN.out.1
 have hgi1:w1.heap[gi]?=W.heap[gi]?:=hg1.block gi HLX.out.2 HN.out.2.1
 refine hK.out _ _ ⟨(dZR hx1).trans HC.out.1,(dZR hgi1).trans HC.out.2⟩ (fun hHeld=>?_)
 clear hK K
 refine eZ7 (a':=?_) ?_ ?_
 rotate_left
 ·
  show Act.put _ (some 187) _=_
  simp only [Act.put,sZa,sZb,sZc]
  rfl
 refine aZC (i:=11) (N:=some 188) (v:=?_) (a':=?_) (bm 13 4095) rfl rfl (aZl HT_.out (by kernel_rfl)) (fun _ _ _ h=>HQ.out _ _ _ _ _ h) (Or.inl ⟨by rfl,?_⟩) ?_ ?_;rotate_left;(intro w';go_simp;with_reducible rfl);rotate_left;(simp only [Act.put,sZa,sZb,sZc];rfl)
 refine gZp (i:=12) (N:=none) (bm 13 8191) rfl rfl (aZU HT_.out (by kernel_rfl)) (by decide) (fun K hK=>?_)
 have y0:=hHeld.2
 have y1:w1.frozen? ⟨gi,A.toNat,none⟩=false:=(froz_same hgi1).trans HN.out.2.2.2
 go_simp
 refine hK.out _ _ ?_
 clear y0 y1
 clear hK K
 refine eZl (bZ8 HT_.out (by kernel_rfl)) ?_
 exact HK.out _ _ _ _ _ _ _ _ _ _ _ _ _ _ _ hr1 hg1
section
variable {w W W2:World} {X F:Nat} {A0 A1 A2 A3 A4:Option Addr} {c0 c1 c2 c3 c4:Nat} {g:Pg} {I I':Nat→Prop} {vi va vb v':Value} {into into':List (List Int)} {ahead after:List Pr}
structure Noted (w W W2:World) (I I':Nat→Prop) (vi:Value) (into':List (List Int)):Prop where
  lt:∀ k,I' k→k<W2.heap.size
  into:Kd.S kIn 23 W2 w.heap.size I' vi into'
  not:∀ k,k<W.heap.size→¬I k→¬I' k
  same:∀ k,k<W.heap.size→¬I k→W2.heap[k]?=W.heap[k]?
  typed:∀ (k:Nat) (cells:Array Value) (q:Nat),W.heap[k]?=some (.cells cells q (0,0))→q≠3→q≠23→W2.heap[k]?=W.heap[k]?
  below:Below w.heap.size W W2
theorem Noted.idle (h:StW w W X F A0 A1 A2 A3 A4 c0 c1 c2 c3 c4 g I vi va vb into ahead after):Noted w W W I I vi into :=
  ⟨h.lt,h.into,fun _ _ h=>h,fun _ _ _=>rfl,fun _ _ _ _ _ _=>rfl,Below.refl _ _⟩
theorem Noted.sw (n:Noted w W W2 I I' vi into') (h:StW w W X F A0 A1 A2 A3 A4 c0 c1 c2 c3 c4 g I vi va vb into ahead after) (hI:InPg w A0 A1 A2 A3 A4 c0 c1 c2 c3 c4 g):StW w W2 X F A0 A1 A2 A3 A4 c0 c1 c2 c3 c4 g I' vi va vb into' ahead after :=
  ⟨⟨h.st.below.trans n.below, (n.typed _ _ _ h.st.box (by decide) (by decide)).trans h.st.box, hI.below (h.st.below.trans n.below)⟩, (n.typed _ _ _ h.fx (by decide) (by decide)).trans h.fx, n.into,
    Kd.R_mono (Kd.R_step (Kd.R_bound h.ahead) (fun k hk _=>n.same k hk.2.2.1 hk.1.1)) (fun k hk=>⟨n.not k hk.2.2.1 hk.1.1,hk.1.2⟩),
    Kd.R_mono (Kd.R_step (Kd.R_bound h.after) (fun k hk _=>n.same k hk.2.2.1 hk.1.1)) (fun k hk=>⟨n.not k hk.2.2.1 hk.1.1,hk.1.2⟩),n.lt⟩
theorem Noted.row (n:Noted w W W2 I I' vi into') {base:Nat} {v:Value} {l:List Int} (h:(Kd.int .i64).R 3 W base (fun k=>¬I k) v l):(Kd.int .i64).R 3 W2 base (fun k=>¬I' k) v l :=
  Kd.R_mono (Kd.R_step (Kd.R_bound h) (fun k hk _=>n.same k hk.2.2.1 hk.1)) (fun k hk=>n.not k hk.2.2.1 hk.1)
theorem hZ6 {gi n ci A:Nat} (h:StW w W X F A0 A1 A2 A3 A4 c0 c1 c2 c3 c4 g I (.slice (some ⟨gi,0,none⟩) n ci) va vb into ahead after) (hA:A<n) :
 ∃ (oki:Nat→Prop) (Au:Option Addr) (cu:Nat),W.cell? ⟨gi,A,none⟩=some (.slice Au (into.getD A []).length cu)∧W.frozen? ⟨gi,A,none⟩=false∧(Kd.int .i64).R 3 W w.heap.size oki (.slice Au (into.getD A []).length cu) (into.getD A []) ∧
  (∀ (k:Nat) (cells:Array Value) (q:Nat),W.heap[k]?=some (.cells cells q (0,0))→q≠3→some k≠(Value.slice Au (into.getD A []).length cu).ownBlock)∧some gi≠(Value.slice Au (into.getD A []).length cu).ownBlock ∧
  ∀ (w1:World) (v1:Value) (l':List Int),(Kd.int .i64).R 3 w1 w.heap.size (fun k=>oki k∨W.heap.size≤k) v1 l'→W.drew.grownBy w1 (Value.slice Au (into.getD A []).length cu).ownBlock →
   ∃ I',Noted w W (w1.setCell ⟨gi,A,none⟩ v1) I I' (.slice (some ⟨gi,0,none⟩) n ci) (into.set A l'):=by
 obtain ⟨oki,Au,cu,h1,h2,h3,hIg,hglt,⟨cg,hcg⟩,hown,hput⟩:=into_push h.into A hA
 have hne:∀ (k:Nat) (cells:Array Value) (q:Nat),W.heap[k]?=some (.cells cells q (0,0))→q≠3→some k≠(Value.slice Au (into.getD A []).length cu).ownBlock:=fun k cells q hk hq e=>by
  obtain ⟨-,c3,hc3⟩:=hown k e.symm
  rw [hk] at hc3
  injection hc3 with hc3
  injection hc3 with _ hc3
  exact hq hc3
 refine ⟨oki,Au,cu,h1,h2,h3,hne,hne gi cg 23 hcg (by decide),?_⟩
 intro w1 v1 l' hr hg
 have hS:=hput W.drew w1 v1 l' (Below.refl _ _).drew hr hg
 have hsz:(w1.setCell ⟨gi,A,none⟩ v1).heap.size=w1.heap.size:=by simp [World.setCell]
 have hblk:∀ k,k<W.heap.size→some k≠(Value.slice Au (into.getD A []).length cu).ownBlock→k≠gi→(w1.setCell ⟨gi,A,none⟩ v1).heap[k]?=W.heap[k]?:=fun k hk h1 h2=>(Below.heap_setCell w1 _ _ k h2).trans (hg.block k hk h1)
 have hbase:∀ k,I k→w.heap.size≤k→True:=fun _ _ _=>trivial
 refine ⟨fun k=>(I k∨W.heap.size≤k)∧k<w1.heap.size,⟨fun k hk=>by rw [hsz];exact hk.2,Kd.S_mono (Kd.S_bound hS) (fun k hk=>⟨hk.1,by have:=hk.2.2.1;omega⟩),fun k hk hn hi=>hi.1.elim hn (fun h=>by omega),fun k hk hn=>hblk k hk (fun e=>hn (hown k e.symm).1) (fun e=>hn (e▸hIg)),fun k cells q hk h3 h23=>hblk k (aZd hk) (hne k cells q hk h3) (fun e=>?_),?_⟩⟩
 ·
  subst e
  rw [hk] at hcg
  injection hcg with hcg
  injection hcg with _ hcg
  exact h23 hcg
 ·
  have hgb:w.heap.size≤gi:=by
   have:=(Kd.S_bound h.into)
   exact ((Kd.S_R this).1 gi rfl).2.1
  have hob:∀ k,k<w.heap.size→some k≠(Value.slice Au (into.getD A []).length cu).ownBlock:=fun k hk e=>by
   have:=bZo (Kd.R_own h3).choose_spec k e.symm
   omega
  have hbw:Below w.heap.size W w1:=⟨hg.os,hg.tape,hg.output,hg.size,fun k hk=>hg.block k (Nat.lt_of_lt_of_le hk h.st.below.size) (hob k hk)⟩
  exact hbw.setCell (p:=⟨gi,A,none⟩) hgb _
theorem push_M (h:StW w W X F A0 A1 A2 A3 A4 c0 c1 c2 c3 c4 g I vi va vb into ahead after) {s:Pr} {v1 v2:Value} (r1:(Kd.int .i64).R 3 W w.heap.size (fun k=>¬I k) v1 s.1) (r2:(Kd.int .i64).R 3 W w.heap.size (fun k=>¬I k) v2 s.2) :
    kSt.M W w.heap.size (fun k=>(¬I k∧some k≠vb.ownBlock)∧some k≠va.ownBlock) s [v1,v2] :=
  ⟨[v1],[v2],rfl,⟨v1,rfl,Kd.R_apart' (Kd.R_apart' r1 (Kd.R_typed h.after) (by decide)) (Kd.R_typed h.ahead) (by decide)⟩,⟨v2,rfl,Kd.R_apart' (Kd.R_apart' r2 (Kd.R_typed h.after) (by decide)) (Kd.R_typed h.ahead) (by decide)⟩⟩
theorem eZp {e:Nat} {v:Value} {base:Nat} {ok:Nat→Prop} {l:List Pr} (h:kSt.R 94 W base ok v l) {k q:Nat} {cells:Array Value} (hk:W.heap[k]?=some (.cells cells q (0,0))) (hq:94≠q):some k≠v.ownBlock:=Kd.R_ne h hk hq
theorem StW.push_ahead (h:StW w W X F A0 A1 A2 A3 A4 c0 c1 c2 c3 c4 g I vi va vb into ahead after) (hI:InPg w A0 A1 A2 A3 A4 c0 c1 c2 c3 c4 g) {s:Pr} (hr:kSt.R 94 W2 w.heap.size (fun k=>¬I k∧some k≠vb.ownBlock) v' (ahead++[s])) (hb:Below w.heap.size W W2) (hg:W.grownBy W2 va.ownBlock) (hat:v'.ownBlock=va.ownBlock∨∃ b,v'.ownBlock=some b∧W.heap.size≤b) :
    StW w W2 X F A0 A1 A2 A3 A4 c0 c1 c2 c3 c4 g I vi v' vb into (ahead++[s]) after :=
  ⟨⟨h.st.below.trans hb, (hg.block _ (aZd h.st.box) (eZp (e := 0) h.ahead h.st.box (by decide))).trans h.st.box, hI.below (h.st.below.trans hb)⟩, (hg.block _ (aZd h.fx) (eZp (e := 0) h.ahead h.fx (by decide))).trans h.fx,
    Kd.S_grown h.into hg (fun k hk e=>(h.ahead.1 k e.symm).1 hk),hr,Kd.R_after h.after hg hat,fun k hk=>Nat.lt_of_lt_of_le (h.lt k hk) hg.size⟩
theorem StW.push_after (h:StW w W X F A0 A1 A2 A3 A4 c0 c1 c2 c3 c4 g I vi va vb into ahead after) (hI:InPg w A0 A1 A2 A3 A4 c0 c1 c2 c3 c4 g) {s:Pr} (hr:kSt.R 94 W2 w.heap.size (fun k=>¬I k∧some k≠va.ownBlock) v' (after++[s])) (hb:Below w.heap.size W W2) (hg:W.grownBy W2 vb.ownBlock) (hat:v'.ownBlock=vb.ownBlock∨∃ b,v'.ownBlock=some b∧W.heap.size≤b) :
    StW w W2 X F A0 A1 A2 A3 A4 c0 c1 c2 c3 c4 g I vi va v' into ahead (after++[s]) :=
  ⟨⟨h.st.below.trans hb, (hg.block _ (aZd h.st.box) (eZp (e := 0) h.after h.st.box (by decide))).trans h.st.box, hI.below (h.st.below.trans hb)⟩, (hg.block _ (aZd h.fx) (eZp (e := 0) h.after h.fx (by decide))).trans h.fx,
    Kd.S_grown h.into hg (fun k hk e=>(h.after.1 k e.symm).1 hk),Kd.R_after h.ahead hg hat,hr,fun k hk=>Nat.lt_of_lt_of_le (h.lt k hk) hg.size⟩
theorem gZa {base:Nat} {v:Value} {l:List Int} (h:StW w W X F A0 A1 A2 A3 A4 c0 c1 c2 c3 c4 g I vi va vb into ahead after) (r:(Kd.int .i64).R 3 W base (fun k=>¬I k) v l) (hg:W.grownBy W2 va.ownBlock):(Kd.int .i64).R 3 W2 base (fun k=>¬I k) v l :=
  Kd.R_over' r (Kd.R_typed h.ahead) (by decide) hg
theorem push_M2 (h:StW w W X F A0 A1 A2 A3 A4 c0 c1 c2 c3 c4 g I vi va vb into ahead after) {s:Pr} {v1 v2:Value} (r1:(Kd.int .i64).R 3 W w.heap.size (fun k=>¬I k) v1 s.1) (r2:(Kd.int .i64).R 3 W w.heap.size (fun k=>¬I k) v2 s.2) :
    kSt.M W w.heap.size (fun k=>(¬I k∧some k≠va.ownBlock)∧some k≠vb.ownBlock) s [v1,v2] :=
  kSt.M_mono (fun k hk=>⟨⟨hk.1.1,hk.2⟩,hk.1.2⟩) (push_M h r1 r2)
theorem gZt (into:List (List Int)) (x:S66) (i t:Nat):(cZ2 into x i).getD t []=into.getD t []∨(cZ2 into x i).getD t []=into.getD t []++[(i:Int)]:=by
 unfold cZ2
 split
 ·
  by_cases ht:x.f1.toNat=t
  ·
   subst ht
   rcases Nat.lt_or_ge x.f1.toNat into.length with hl|hl
   · exact .inr (cZW _ _ _ _ hl)
   ·
    left
    rw [List.getD_eq_getElem?_getD,List.getD_eq_getElem?_getD,List.getElem?_eq_none (by rw [List.length_set];exact hl),List.getElem?_eq_none hl]
  · exact .inl (getD_set_ne _ _ _ _ _ ht)
 · exact .inl rfl
theorem intoF_len (into:List (List Int)) (x:S66) (i:Nat):(cZ2 into x i).length=into.length:=by
 unfold cZ2
 split
 · rw [List.length_set]
 · rfl
theorem inv_step {W0:World} {i:Nat} {x:S66} {s t:Pr} {va0 vb0:Value} (h:Inv w W0 X F A0 A1 A2 A3 A4 c0 c1 c2 c3 c4 g i I vi va0 vb0 into ahead after) (sw:StW w W X F A0 A1 A2 A3 A4 c0 c1 c2 c3 c4 g I' vi va vb (cZ2 into x i) (ahead++[s]) (after++[t])) (hlt:i<g.C.length)
 (hgt:eZ0 g.loc.toNat t) (hdp:(t.1.length:Int)≤g.dep) (hres:bZ1 g=refL (KP g) (g.C.length - i - 1) (i+1) (after++[t]) (cZ2 into x i) (ahead++[s])) :
 Inv w W X F A0 A1 A2 A3 A4 c0 c1 c2 c3 c4 g (i+1) I' vi va vb (cZ2 into x i) (ahead++[s]) (after++[t]):=by
 refine ⟨sw,hlt,by rw [List.length_append,h.la];rfl,by rw [List.length_append,h.lah];rfl,by rw [intoF_len];exact h.lin,fun p q hq=>?_,fun p=>?_,fun a ha=>?_,?_⟩
 ·
  rcases gZt into x i p with e|e
  ·
   rw [e] at hq
   have:=h.inlt p q hq
   omega
  ·
   rw [e] at hq
   rcases List.mem_append.1 hq with hq|hq
   ·
    have:=h.inlt p q hq
    omega
   ·
    rw [List.mem_singleton.1 hq]
    omega
 ·
  have:=h.inlen p
  rcases gZt into x i p with e|e
  · rw [e];omega
  · rw [e,List.length_append];exact Nat.succ_le_succ this
 ·
  rcases List.mem_append.1 ha with ha|ha
  · exact h.good a ha
  · rw [List.mem_singleton.1 ha];exact ⟨hgt,hdp⟩
 · rw [hres,Nat.sub_sub]
end
theorem walk_r14 {u0 u1 u2 u4 u5 u6 u7 u9 u11 u12 u13 u14 u15 u16 u17 u18 u19 u20 u21 u22 u23 u24 u25 u26 u27 u28 u29 u30 u31 u32 u33 u34 u35 u36 u37 u38 u39 u40 u41 u42 u43 u44 u45 u46 u47 u48 u49 u50 u51 u52 u53 u54 u55 u56 u57 u58 u59 u60 u61 u62 u63 u64 u65 u66 u67 u68 u69 u70 u71 u72 u73 u74 u75 u76 u77 u78 u79 u80 u81 u82 u83 u84 u85 u86 u87 u88 u89 u90 u91 u92 u93 u94 u95 u96 u97 u98 u99 u100 u101 u102 u103 u104 u105 u106 u107 u108 u109 u110 u111 u112 u113 u114 u115 u116 u117 u118 u119 u120 u121 u122 u123 u124 u125 u126 u127 u128 u129 u130 u131 u132 u133 u134 u135 u136 u137 u138 u139 u140 u141 u142 u143 u144 u145 u146 u147 u148 u149 u150 u151 u152 u153 u154 u155 u156 u157 u158 u159 u160 u161 u162 u163 u164 u165 u166 u167 u168 u169 u170 u171 u172 u173 u174 u175 u176 u177 u178 u179 u180 u181 u182 u183 u184 u185 u186 u187 u188 u189 u190 u191 u192 u193 u194 u195 u196 u197 u198:Value} {K:Act→World→Prop} {Q':Exit→Act→World→Prop} {ops:Array Oper} (hops:ops=cZt Try.f31 14) {W:World} {bC:Nat} {n i:Int}
 (hF:W.heap[bC]?=some (rdO 0 0))
 (hK : ∀ (v87 v88 v89 : Value), K
  ⟨#[u0, u1, .slice none 0 0, .pointer (some ⟨bC, 0, none⟩), u4, u5, u6, u7, .int .i64 i, u9, .int .i64 n, u11, u12, u13, u14, u15, u16, u17, u18, u19, u20, u21, u22, u23, u24, u25, u26,
  u27,u28,u29,u30,u31,u32,u33,u34,u35,u36,u37,u38,u39,u40,u41,u42,u43,u44,u45,u46,u47,u48,u49,u50,u51,u52,u53,u54,u55,u56,u57,u58,u59,u60,u61,u62,
  u63,u64,u65,u66,u67,u68,u69,u70,u71,u72,u73,u74,u75,u76,u77,u78,u79,u80,u81,u82,u83,u84,u85,u86,v87,v88,v89,u90,u91,u92,u93,u94,u95,u96,u97,u98,
  u99,u100,u101,u102,u103,u104,u105,u106,u107,u108,u109,u110,u111,u112,u113,u114,u115,u116,u117,u118,u119,u120,u121,u122,u123,u124,u125,u126,u127,u128,
  u129,u130,u131,u132,u133,u134,u135,u136,u137,u138,u139,u140,u141,u142,u143,u144,u145,u146,u147,u148,u149,u150,u151,u152,u153,u154,u155,u156,u157,u158,
  u159,u160,u161,u162,u163,u164,u165,u166,u167,u168,u169,u170,u171,u172,u173,u174,u175,u176,u177,u178,u179,u180,u181,u182,u183,u184,u185,u186,u187,u188,
  u189,u190,u191,u192,u193,u194,u195,u196,u197,u198],[]⟩ (W.setRow bC (rdC n i))) :
 (Code.region 14 ops false).wp Try.prog (Exit.then K Q')
  ⟨#[u0, u1, u2, .pointer (some ⟨bC, 0, none⟩), u4, u5, u6, u7, .int .i64 i, u9, .int .i64 n, u11, u12, u13, u14, u15, u16, u17, u18, u19, u20, u21, u22, u23, u24, u25, u26, u27, u28,
  u29,u30,u31,u32,u33,u34,u35,u36,u37,u38,u39,u40,u41,u42,u43,u44,u45,u46,u47,u48,u49,u50,u51,u52,u53,u54,u55,u56,u57,u58,u59,u60,u61,u62,u63,u64,
  u65,u66,u67,u68,u69,u70,u71,u72,u73,u74,u75,u76,u77,u78,u79,u80,u81,u82,u83,u84,u85,u86,u87,u88,u89,u90,u91,u92,u93,u94,u95,u96,u97,u98,u99,u100,
  u101,u102,u103,u104,u105,u106,u107,u108,u109,u110,u111,u112,u113,u114,u115,u116,u117,u118,u119,u120,u121,u122,u123,u124,u125,u126,u127,u128,u129,u130,
  u131,u132,u133,u134,u135,u136,u137,u138,u139,u140,u141,u142,u143,u144,u145,u146,u147,u148,u149,u150,u151,u152,u153,u154,u155,u156,u157,u158,u159,u160,
  u161,u162,u163,u164,u165,u166,u167,u168,u169,u170,u171,u172,u173,u174,u175,u176,u177,u178,u179,u180,u181,u182,u183,u184,u185,u186,u187,u188,u189,u190,
  u191,u192,u193,u194,u195,u196,u197,u198],[]⟩ W:=by
 rw [hops]
 clear hops ops
 simp only [cZt,Try.f31,Option.bind,opsIn,Nat.reduceBEq,Bool.false_eq_true,↓reduceIte,Option.getD]
 have HK:=hid_ hK
 have HF:=hid_ hF
 clear hK hF
 go_wp2_with ((with_reducible refine aZD (t:=41) (p:=3) rfl ?_);refine wpList_store_row rfl 41 (.tmp 3) (.tmp 89) rfl bC (rdC n i) rfl rfl 41 (rdC 0 0) HF.out (bZe n i) (bZg 0 0 n i) (bZ5 n i) ?_)
 exact HK.out _ _ _
theorem walk_r24 {u0 u1 u2 u4 u5 u6 u7 u9 u10 u11 u12 u13 u14 u15 u16 u17 u18 u19 u20 u21 u22 u23 u24 u25 u26 u27 u28 u29 u30 u31 u32 u33 u34 u35 u36 u37 u38 u39 u40 u41 u42 u43 u44 u45 u46 u47 u48 u49 u50 u51 u52 u53 u54 u55 u56 u57 u58 u59 u60 u61 u62 u63 u64 u65 u66 u67 u68 u69 u70 u71 u72 u73 u74 u75 u76 u77 u78 u79 u80 u81 u82 u83 u84 u85 u86 u87 u88 u89 u90 u91 u92 u93 u94 u95 u96 u97 u98 u99 u100 u101 u102 u103 u104 u105 u106 u107 u108 u109 u110 u111 u112 u113 u114 u115 u116 u117 u118 u119 u120 u121 u122 u123 u124 u125 u126 u127 u128 u129 u130 u131 u132 u133 u134 u135 u136 u137 u138 u139 u140 u141 u142 u143 u144 u145 u146 u147 u148 u149 u150 u151 u152 u153 u154 u155 u156 u157 u158 u159 u160 u161 u162 u163 u164 u165 u166 u167 u168 u169 u170 u171 u172 u173 u174 u175 u176 u177 u178 u179 u180 u181 u182 u183 u184 u185 u186 u187 u188 u189 u190 u191 u192 u193 u194 u195 u196 u197 u198:Value} {K:Act→World→Prop} {Q':Exit→Act→World→Prop} {ops:Array Oper} (hops:ops=cZt Try.f31 24) {W:World} {bC:Nat} {i:Int}
 (hF:W.heap[bC]?=some (rdO 0 0))
 (hK : ∀ (v127 v128 : Value), K
  ⟨#[u0, u1, .slice none 0 0, .pointer (some ⟨bC, 0, none⟩), u4, u5, u6, u7, .int .i64 i, u9, u10, u11, u12, u13, u14, u15, u16, u17, u18, u19, u20, u21, u22, u23, u24, u25, u26, u27,
  u28,u29,u30,u31,u32,u33,u34,u35,u36,u37,u38,u39,u40,u41,u42,u43,u44,u45,u46,u47,u48,u49,u50,u51,u52,u53,u54,u55,u56,u57,u58,u59,u60,u61,u62,u63,
  u64,u65,u66,u67,u68,u69,u70,u71,u72,u73,u74,u75,u76,u77,u78,u79,u80,u81,u82,u83,u84,u85,u86,u87,u88,u89,u90,u91,u92,u93,u94,u95,u96,u97,u98,u99,
  u100,u101,u102,u103,u104,u105,u106,u107,u108,u109,u110,u111,u112,u113,u114,u115,u116,u117,u118,u119,u120,u121,u122,u123,u124,u125,u126,v127,v128,u129,
  u130,u131,u132,u133,u134,u135,u136,u137,u138,u139,u140,u141,u142,u143,u144,u145,u146,u147,u148,u149,u150,u151,u152,u153,u154,u155,u156,u157,u158,u159,
  u160,u161,u162,u163,u164,u165,u166,u167,u168,u169,u170,u171,u172,u173,u174,u175,u176,u177,u178,u179,u180,u181,u182,u183,u184,u185,u186,u187,u188,u189,
  u190,u191,u192,u193,u194,u195,u196,u197,u198],[]⟩ (W.setRow bC (rdC 218 i))) :
 (Code.region 24 ops false).wp Try.prog (Exit.then K Q')
  ⟨#[u0, u1, u2, .pointer (some ⟨bC, 0, none⟩), u4, u5, u6, u7, .int .i64 i, u9, u10, u11, u12, u13, u14, u15, u16, u17, u18, u19, u20, u21, u22, u23, u24, u25, u26, u27, u28, u29, u30,
  u31,u32,u33,u34,u35,u36,u37,u38,u39,u40,u41,u42,u43,u44,u45,u46,u47,u48,u49,u50,u51,u52,u53,u54,u55,u56,u57,u58,u59,u60,u61,u62,u63,u64,u65,u66,
  u67,u68,u69,u70,u71,u72,u73,u74,u75,u76,u77,u78,u79,u80,u81,u82,u83,u84,u85,u86,u87,u88,u89,u90,u91,u92,u93,u94,u95,u96,u97,u98,u99,u100,u101,
  u102,u103,u104,u105,u106,u107,u108,u109,u110,u111,u112,u113,u114,u115,u116,u117,u118,u119,u120,u121,u122,u123,u124,u125,u126,u127,u128,u129,u130,u131,
  u132,u133,u134,u135,u136,u137,u138,u139,u140,u141,u142,u143,u144,u145,u146,u147,u148,u149,u150,u151,u152,u153,u154,u155,u156,u157,u158,u159,u160,u161,
  u162,u163,u164,u165,u166,u167,u168,u169,u170,u171,u172,u173,u174,u175,u176,u177,u178,u179,u180,u181,u182,u183,u184,u185,u186,u187,u188,u189,u190,u191,
  u192,u193,u194,u195,u196,u197,u198],[]⟩ W:=by
 rw [hops]
 clear hops ops
 simp only [cZt,Try.f31,Option.bind,opsIn,Nat.reduceBEq,Bool.false_eq_true,↓reduceIte,Option.getD]
 have HK:=hid_ hK
 have HF:=hid_ hF
 clear hK hF
 go_wp2_with ((with_reducible refine aZD (t:=41) (p:=3) rfl ?_);refine wpList_store_row rfl 41 (.tmp 3) (.tmp 128) rfl bC (rdC 218 i) rfl rfl 41 (rdC 0 0) HF.out (bZe 218 i) (bZg 0 0 218 i) (bZ5 218 i) ?_)
 exact HK.out _ _
theorem fZC {u0 u1 u2 u4 u5 u6 u7 u9 u10 u11 u12 u13 u14 u15 u17 u18 u19 u20 u21 u22 u23 u24 u25 u26 u27 u28 u29 u30 u31 u32 u33 u34 u35 u36 u37 u38 u39 u40 u41 u42 u43 u44 u45 u46 u47 u48 u49 u50 u51 u52 u53 u54 u55 u56 u57 u58 u59 u60 u61 u62 u63 u64 u65 u66 u67 u68 u69 u70 u71 u72 u73 u74 u75 u76 u77 u78 u79 u80 u81 u82 u83 u84 u85 u86 u87 u88 u89 u90 u91 u92 u93 u94 u95 u96 u97 u98 u99 u100 u101 u102 u103 u104 u105 u106 u107 u108 u109 u110 u111 u112 u113 u114 u115 u116 u117 u118 u119 u120 u121 u122 u123 u124 u125 u126 u127 u128 u129 u130 u131 u132 u133 u134 u135 u136 u137 u138 u139 u140 u141 u142 u143 u144 u145 u146 u147 u148 u149 u150 u151 u152 u153 u154 u155 u156 u157 u158 u159 u160 u161 u162 u163 u164 u165 u166 u167 u168 u169 u170 u171 u172 u173 u174 u175 u176 u177 u178 u179 u180 u181 u182 u183 u184 u185 u186 u187 u188 u189 u190 u191 u192 u193 u194 u195 u196 u197 u198:Value} {K:Act→World→Prop} {Q':Exit→Act→World→Prop} {ops:Array Oper} (hops:ops=cZt Try.f31 32) {W:World} {bC:Nat} {n i:Int}
 (hF:W.heap[bC]?=some (rdO 0 0))
 (hK : ∀ (v166 v167 v168 : Value), K
  ⟨#[u0, u1, .slice none 0 0, .pointer (some ⟨bC, 0, none⟩), u4, u5, u6, u7, .int .i64 i, u9, u10, u11, u12, u13, u14, u15, .int .i64 n, u17, u18, u19, u20, u21, u22, u23, u24, u25, u26,
  u27,u28,u29,u30,u31,u32,u33,u34,u35,u36,u37,u38,u39,u40,u41,u42,u43,u44,u45,u46,u47,u48,u49,u50,u51,u52,u53,u54,u55,u56,u57,u58,u59,u60,u61,u62,
  u63,u64,u65,u66,u67,u68,u69,u70,u71,u72,u73,u74,u75,u76,u77,u78,u79,u80,u81,u82,u83,u84,u85,u86,u87,u88,u89,u90,u91,u92,u93,u94,u95,u96,u97,u98,
  u99,u100,u101,u102,u103,u104,u105,u106,u107,u108,u109,u110,u111,u112,u113,u114,u115,u116,u117,u118,u119,u120,u121,u122,u123,u124,u125,u126,u127,u128,
  u129,u130,u131,u132,u133,u134,u135,u136,u137,u138,u139,u140,u141,u142,u143,u144,u145,u146,u147,u148,u149,u150,u151,u152,u153,u154,u155,u156,u157,u158,
  u159,u160,u161,u162,u163,u164,u165,v166,v167,v168,u169,u170,u171,u172,u173,u174,u175,u176,u177,u178,u179,u180,u181,u182,u183,u184,u185,u186,u187,u188,
  u189,u190,u191,u192,u193,u194,u195,u196,u197,u198],[]⟩ (W.setRow bC (rdC n i))) :
 (Code.region 32 ops false).wp Try.prog (Exit.then K Q')
  ⟨#[u0, u1, u2, .pointer (some ⟨bC, 0, none⟩), u4, u5, u6, u7, .int .i64 i, u9, u10, u11, u12, u13, u14, u15, .int .i64 n, u17, u18, u19, u20, u21, u22, u23, u24, u25, u26, u27, u28,
  u29,u30,u31,u32,u33,u34,u35,u36,u37,u38,u39,u40,u41,u42,u43,u44,u45,u46,u47,u48,u49,u50,u51,u52,u53,u54,u55,u56,u57,u58,u59,u60,u61,u62,u63,u64,
  u65,u66,u67,u68,u69,u70,u71,u72,u73,u74,u75,u76,u77,u78,u79,u80,u81,u82,u83,u84,u85,u86,u87,u88,u89,u90,u91,u92,u93,u94,u95,u96,u97,u98,u99,u100,
  u101,u102,u103,u104,u105,u106,u107,u108,u109,u110,u111,u112,u113,u114,u115,u116,u117,u118,u119,u120,u121,u122,u123,u124,u125,u126,u127,u128,u129,u130,
  u131,u132,u133,u134,u135,u136,u137,u138,u139,u140,u141,u142,u143,u144,u145,u146,u147,u148,u149,u150,u151,u152,u153,u154,u155,u156,u157,u158,u159,u160,
  u161,u162,u163,u164,u165,u166,u167,u168,u169,u170,u171,u172,u173,u174,u175,u176,u177,u178,u179,u180,u181,u182,u183,u184,u185,u186,u187,u188,u189,u190,
  u191,u192,u193,u194,u195,u196,u197,u198],[]⟩ W:=by
 rw [hops]
 clear hops ops
 simp only [cZt,Try.f31,Option.bind,opsIn,Nat.reduceBEq,Bool.false_eq_true,↓reduceIte,Option.getD]
 have HK:=hid_ hK
 have HF:=hid_ hF
 clear hK hF
 go_wp2_with ((with_reducible refine aZD (t:=41) (p:=3) rfl ?_);refine wpList_store_row rfl 41 (.tmp 3) (.tmp 168) rfl bC (rdC n i) rfl rfl 41 (rdC 0 0) HF.out (bZe n i) (bZg 0 0 n i) (bZ5 n i) ?_)
 exact HK.out _ _ _
theorem walk_r37 {u0 u1 u2 u4 u5 u6 u7 u8 u9 u10 u11 u12 u13 u14 u15 u16 u17 u18 u19 u20 u21 u22 u23 u24 u25 u26 u27 u28 u29 u30 u31 u32 u33 u34 u35 u36 u37 u38 u39 u40 u41 u42 u43 u44 u45 u46 u47 u48 u49 u50 u51 u52 u53 u54 u55 u56 u57 u58 u59 u60 u61 u62 u63 u64 u65 u66 u67 u68 u69 u70 u71 u72 u73 u74 u75 u76 u77 u78 u79 u80 u81 u82 u83 u84 u85 u86 u87 u88 u89 u90 u91 u92 u93 u94 u95 u96 u97 u98 u99 u100 u101 u102 u103 u104 u105 u106 u107 u108 u109 u110 u111 u112 u113 u114 u115 u116 u117 u118 u119 u120 u121 u122 u123 u124 u125 u126 u127 u128 u129 u130 u131 u132 u133 u134 u135 u136 u137 u138 u139 u140 u141 u142 u143 u144 u145 u146 u147 u148 u149 u150 u151 u152 u153 u154 u155 u156 u157 u158 u159 u160 u161 u162 u163 u164 u165 u166 u167 u168 u169 u170 u171 u172 u173 u174 u175 u176 u177 u178 u179 u180 u181 u182 u183 u184 u185 u186 u187 u188 u189 u190 u191 u192 u193 u194 u195 u196 u197 u198:Value} {K:Act→World→Prop} {Q':Exit→Act→World→Prop} {ops:Array Oper} (hops:ops=cZt Try.f31 37) {W:World} {bC:Nat}
 (hF:W.heap[bC]?=some (rdO 0 0))
 (hK : ∀ (v197 v198 : Value), K
  ⟨#[u0, u1, u6, .pointer (some ⟨bC, 0, none⟩), u4, u5, u6, u7, u8, u9, u10, u11, u12, u13, u14, u15, u16, u17, u18, u19, u20, u21, u22, u23, u24, u25, u26, u27, u28, u29, u30, u31, u32,
  u33,u34,u35,u36,u37,u38,u39,u40,u41,u42,u43,u44,u45,u46,u47,u48,u49,u50,u51,u52,u53,u54,u55,u56,u57,u58,u59,u60,u61,u62,u63,u64,u65,u66,u67,u68,
  u69,u70,u71,u72,u73,u74,u75,u76,u77,u78,u79,u80,u81,u82,u83,u84,u85,u86,u87,u88,u89,u90,u91,u92,u93,u94,u95,u96,u97,u98,u99,u100,u101,u102,u103,
  u104,u105,u106,u107,u108,u109,u110,u111,u112,u113,u114,u115,u116,u117,u118,u119,u120,u121,u122,u123,u124,u125,u126,u127,u128,u129,u130,u131,u132,u133,
  u134,u135,u136,u137,u138,u139,u140,u141,u142,u143,u144,u145,u146,u147,u148,u149,u150,u151,u152,u153,u154,u155,u156,u157,u158,u159,u160,u161,u162,u163,
  u164,u165,u166,u167,u168,u169,u170,u171,u172,u173,u174,u175,u176,u177,u178,u179,u180,u181,u182,u183,u184,u185,u186,u187,u188,u189,u190,u191,u192,u193,
  u194,u195,u196,v197,v198],[]⟩ (W.setRow bC (rdC 0 0))) :
 (Code.region 37 ops false).wp Try.prog (Exit.then K Q')
  ⟨#[u0, u1, u2, .pointer (some ⟨bC, 0, none⟩), u4, u5, u6, u7, u8, u9, u10, u11, u12, u13, u14, u15, u16, u17, u18, u19, u20, u21, u22, u23, u24, u25, u26, u27, u28, u29, u30, u31, u32,
  u33,u34,u35,u36,u37,u38,u39,u40,u41,u42,u43,u44,u45,u46,u47,u48,u49,u50,u51,u52,u53,u54,u55,u56,u57,u58,u59,u60,u61,u62,u63,u64,u65,u66,u67,u68,
  u69,u70,u71,u72,u73,u74,u75,u76,u77,u78,u79,u80,u81,u82,u83,u84,u85,u86,u87,u88,u89,u90,u91,u92,u93,u94,u95,u96,u97,u98,u99,u100,u101,u102,u103,
  u104,u105,u106,u107,u108,u109,u110,u111,u112,u113,u114,u115,u116,u117,u118,u119,u120,u121,u122,u123,u124,u125,u126,u127,u128,u129,u130,u131,u132,u133,
  u134,u135,u136,u137,u138,u139,u140,u141,u142,u143,u144,u145,u146,u147,u148,u149,u150,u151,u152,u153,u154,u155,u156,u157,u158,u159,u160,u161,u162,u163,
  u164,u165,u166,u167,u168,u169,u170,u171,u172,u173,u174,u175,u176,u177,u178,u179,u180,u181,u182,u183,u184,u185,u186,u187,u188,u189,u190,u191,u192,u193,
  u194,u195,u196,u197,u198],[]⟩ W:=by
 rw [hops]
 clear hops ops
 simp only [cZt,Try.f31,Option.bind,opsIn,Nat.reduceBEq,Bool.false_eq_true,↓reduceIte,Option.getD]
 have HK:=hid_ hK
 have HF:=hid_ hF
 clear hK hF
 go_wp2_with ((with_reducible refine aZD (t:=41) (p:=3) rfl ?_);refine wpList_store_row rfl 41 (.tmp 3) (.tmp 198) rfl bC (rdC 0 0) rfl rfl 41 (rdC 0 0) HF.out (bZe 0 0) (bZg 0 0 0 0) (bZ5 0 0) ?_)
 exact HK.out _ _
theorem nxt_ {W W2:World} {k:Nat} {o:Obj} (h:W.heap[k]?=some o) (hb:Below W.heap.size W W2):W2.heap[k]?=some o:=(hb.block _ (aZd h)).trans h
theorem dZ7 {W:World} {X t:Nat} {a b c d e f g:Value} (h:W.heap[X]?=some (.cells #[a,b,c,d,e,f,g] t (0,0))):W.cell? ⟨X,0,none⟩=some a∧W.cell? ⟨X,1,none⟩=some b∧W.cell? ⟨X,2,none⟩=some c∧W.cell? ⟨X,3,none⟩=some d∧W.cell? ⟨X,4,none⟩=some e∧W.cell? ⟨X,5,none⟩=some f∧W.cell? ⟨X,6,none⟩=some g:=by simp [World.cell?,h]
theorem fZV (w:World) (A0 A1 A2 A3 A4:Option Addr) (c0 c1 c2 c3 c4 n0 n1 n2 n3 n4:Nat) (C:List S66) (dep loc what n:Int) (h0:0≤what) (h1:what≤8) :
 Calls Try.prog 97 #[.agg #[.slice A0 n0 c0,.slice A1 n1 c1,.slice A2 n2 c2,.slice A3 n3 c3,.slice A4 n4 c4,.int .i64 dep,.int .i64 loc],.int .i64 what,.int .i64 n] w fun e w'=>e=.returned (.bool (bZk (K0 n0 n1 n2 n3 C dep loc) (letR what) n))∧Below w.heap.size w w':=by
 have hb:=aZa (Below.refl w.heap.size w) (.cells #[.slice A0 n0 c0,.slice A1 n1 c1,.slice A2 n2 c2,.slice A3 n3 c3,.slice A4 n4 c4,.int .i64 dep,.int .i64 loc] 28)
 obtain ⟨x0,x1,x2,x3,x4,x5,x6⟩:=dZ7 (heap_alloc_new w (.cells #[.slice A0 n0 c0,.slice A1 n1 c1,.slice A2 n2 c2,.slice A3 n3 c3,.slice A4 n4 c4,.int .i64 dep,.int .i64 loc] 28))
 have HB:=hid_ hb
 clear hb
 have hw:what=0∨what=1∨what=2∨what=3∨what=4∨what=5∨what=6∨what=7∨what=8:=by omega
 clear h0 h1
 by_cases a0:n=0
 ·
  subst a0
  rcases hw with rfl|rfl|rfl|rfl|rfl|rfl|rfl|rfl|rfl
  all_goals (
   go_enter Try.func97,Try.ntmps97
   go_wp2_with (fail)
   go_ret
   exact ⟨by simp [bZk,letR,K0],HB.out⟩)
 ·
  have b0:(n == 0)=false:=beq_eq_false_iff_ne.2 a0
  by_cases a1:0≤n
  ·
   have b1:decide (n≥0)=true:=decide_eq_true a1
   have b2:decide (n≥1)=true:=decide_eq_true (by omega)
   have b3:1≤n:=by omega
   rcases hw with rfl|rfl|rfl|rfl|rfl|rfl|rfl|rfl|rfl
   all_goals (
    go_enter Try.func97,Try.ntmps97
    go_wp2_with (fail)
    go_ret
    exact ⟨by simp [bZk,letR,K0,a0,a1,b3,Bool.beq_eq_decide_eq],HB.out⟩)
  ·
   have b1:decide (n≥0)=false:=decide_eq_false a1
   have b2:decide (n≥1)=false:=decide_eq_false (by omega)
   have b3:¬ 1≤n:=by omega
   have b4:¬n=1:=by omega
   have hD:∀ m:Int,decide (0≤n∧n<m)=false:=fun m=>decide_eq_false (fun h=>a1 h.1)
   rcases hw with rfl|rfl|rfl|rfl|rfl|rfl|rfl|rfl|rfl
   all_goals (
    go_enter Try.func97,Try.ntmps97
    go_wp2_with (fail)
    go_ret
    exact ⟨by first|(simp [bZk,letR,K0,a0,b4];done)|(simp [bZk,letR,K0,a0,b4];first|exact hD _|(intro h;omega)),HB.out⟩)
theorem early_any (w:World) (A0 A1 A2 A3 A4:Option Addr) (c0 c1 c2 c3 c4 n0 n1 n2 n3:Nat) (C:List S66) (dep loc:Int) (i:Nat) (hC:Kd.C k66 w A4 C.length C) (hi:i<C.length) (hn:C.length≤32768) :
 Calls Try.prog 56 #[.agg #[.slice A0 n0 c0,.slice A1 n1 c1,.slice A2 n2 c2,.slice A3 n3 c3,.slice A4 C.length c4,.int .i64 dep,.int .i64 loc],.int .i64 i] w fun e w'=>e=.returned (.int .i64 (bZi (K0 n0 n1 n2 n3 C dep loc) i))∧Below w.heap.size w w':=by
 have hb:=aZa (Below.refl w.heap.size w) (.cells #[.slice A0 n0 c0,.slice A1 n1 c1,.slice A2 n2 c2,.slice A3 n3 c3,.slice A4 C.length c4,.int .i64 dep,.int .i64 loc] 28)
 have p0:=heap_alloc_new w (.cells #[.slice A0 n0 c0,.slice A1 n1 c1,.slice A2 n2 c2,.slice A3 n3 c3,.slice A4 C.length c4,.int .i64 dep,.int .i64 loc] 28)
 go_enter Try.func56,Try.ntmps56
 go_upto_region 1 with (fail)
 generalize w.alloc (.cells #[.slice A0 n0 c0,.slice A1 n1 c1,.slice A2 n2 c2,.slice A3 n3 c3,.slice A4 C.length c4,.int .i64 dep,.int .i64 loc] 28)=W at hb p0 ⊢
 obtain ⟨x0,x1,x2,x3,x4,x5,x6⟩:=dZ7 p0
 have hC1:=Kd.C_below hC hb
 have HB:=hid_ (And.intro hb p0)
 obtain ⟨ad,rfl,k0,k1,k2,k3⟩:=eZY hC1 (i:Int) (by omega) (by omega)
 rw [Int.toNat_natCast] at k0 k1 k2 k3
 obtain ⟨x,hx⟩:∃ x,x=aZi C i:=⟨_,rfl⟩
 rw [←hx] at k0 k1 k2 k3
 have HX:=hid_ hx
 have i0:(0:Int)≤(i:Int):=by omega
 have i1:(i:Int)<(C.length:Int):=by omega
 clear hb p0 hC hC1 hx
 go_upto_region 2 with (fail)
 have hb2:=aZa (Below.refl W.heap.size W) (.cells #[.int .i64 x.f0,.int .i64 x.f1,.int .i64 x.f2,.int .i64 x.f3] 66)
 have p5:=heap_alloc_new W (.cells #[.int .i64 x.f0,.int .i64 x.f1,.int .i64 x.f2,.int .i64 x.f3] 66)
 have HB2:=hid_ (And.intro (HB.out.1.trans (hb2.mono HB.out.1.size)) (And.intro (nxt_ HB.out.2 hb2) p5))
 clear x0 x1 x2 x3 x4 x5 x6 k0 k1 k2 k3 HB hb2 p5
 generalize W.alloc (.cells #[.int .i64 x.f0,.int .i64 x.f1,.int .i64 x.f2,.int .i64 x.f3] 66)=W2 at HB2 ⊢
 generalize W.heap.size=b5 at HB2 ⊢
 have hk:(K0 n0 n1 n2 n3 C dep loc).C=C:=rfl
 by_cases ho:x.f0<1∨36<x.f0
 ·
  have HF:=hid_ (show bZi (K0 n0 n1 n2 n3 C dep loc) i=211 by unfold bZi;rw [hk,←HX.out,if_pos ho])
  obtain ⟨y0,y1,y2,y3⟩:=dZB HB2.out.2.2
  by_cases h1:x.f0<1
  ·
   have d0:decide (x.f0<1)=true:=decide_eq_true h1
   clear ho
   go_wp2_with (fail)
   go_ret
   rw [HF.out]
   exact ⟨rfl,HB2.out.1⟩
  ·
   have d0:decide (x.f0<1)=false:=decide_eq_false h1
   have d1:decide (x.f0 > 36)=true:=decide_eq_true (ho.resolve_left h1)
   clear ho h1
   go_wp2_with (fail)
   go_ret
   rw [HF.out]
   exact ⟨rfl,HB2.out.1⟩
 ·
  obtain ⟨a,b,c,ho8,g1,g2,g3,g4,g5,g6,g7,g8,g9,g10⟩:=opers_f x.f0 (by omega) (by omega)
  have ho10:berthref21_Operands.f 10 x.f0=some (a,b,c):=berthref21_Operands.mono _ 9 _ (berthref21_Operands.mono _ 8 _ ho8)
  have hF:bZi (K0 n0 n1 n2 n3 C dep loc) i=if bZk (K0 n0 n1 n2 n3 C dep loc) (letR a) x.f1=false∨bZk (K0 n0 n1 n2 n3 C dep loc) (letR b) x.f2=false∨bZk (K0 n0 n1 n2 n3 C dep loc) (letR c) x.f3=false then 212 else cZ1 C.length i x.f0 x.f1:=by
   unfold bZi
   rw [hk,←HX.out,if_neg ho,g7,g8,g9]
  have d0:decide (x.f0<1)=false:=decide_eq_false (by omega)
  have d1:decide (x.f0 > 36)=false:=decide_eq_false (by omega)
  have HOP:=hid_ (And.intro (show 1≤x.f0 by omega) (show x.f0≤36 by omega))
  obtain ⟨y0,y1,y2,y3⟩:=dZB HB2.out.2.2
  have HG:=hid_ (And.intro hF g10)
  clear ho hF g7 g8 g9 g10 ho8 hk
  go_wp2_with (fail)
  clear y0 y1 y2 y3 d0 d1
  refine (show Calls _ _ _ _ _ from gZj x.f0 W2 HOP.out.1 HOP.out.2 a b c ho10).mono ?_
  rintro e W3 ⟨rfl,bel⟩
  have HB3:=hid_ (And.intro (HB2.out.1.trans (bel.mono HB2.out.1.size)) (And.intro (nxt_ HB2.out.2.1 bel) (nxt_ HB2.out.2.2 bel)))
  clear HB2 bel ho10
  obtain ⟨x0,x1,x2,x3,x4,x5,x6⟩:=dZ7 HB3.out.2.1
  obtain ⟨y0,y1,y2,y3⟩:=dZB HB3.out.2.2
  go_wp2_with (fail)
  clear x0 x1 x2 x3 x4 x5 x6 y0 y1 y2 y3
  refine (show Calls _ _ _ _ _ from fZV W3 A0 A1 A2 A3 (some ad) c0 c1 c2 c3 c4 n0 n1 n2 n3 C.length C dep loc a x.f1 g1 g2).mono ?_
  rintro e W4 ⟨rfl,bel⟩
  have HB4:=hid_ (And.intro (HB3.out.1.trans (bel.mono HB3.out.1.size)) (And.intro (nxt_ HB3.out.2.1 bel) (nxt_ HB3.out.2.2 bel)))
  clear HB3 bel
  obtain ⟨x0,x1,x2,x3,x4,x5,x6⟩:=dZ7 HB4.out.2.1
  obtain ⟨y0,y1,y2,y3⟩:=dZB HB4.out.2.2
  go_wp2_with (fail)
  clear x0 x1 x2 x3 x4 x5 x6 y0 y1 y2 y3
  refine (show Calls _ _ _ _ _ from fZV W4 A0 A1 A2 A3 (some ad) c0 c1 c2 c3 c4 n0 n1 n2 n3 C.length C dep loc b x.f2 g3 g4).mono ?_
  rintro e W6 ⟨rfl,bel⟩
  have HB6:=hid_ (And.intro (HB4.out.1.trans (bel.mono HB4.out.1.size)) (And.intro (nxt_ HB4.out.2.1 bel) (nxt_ HB4.out.2.2 bel)))
  clear HB4 bel
  obtain ⟨x0,x1,x2,x3,x4,x5,x6⟩:=dZ7 HB6.out.2.1
  obtain ⟨y0,y1,y2,y3⟩:=dZB HB6.out.2.2
  go_wp2_with (fail)
  clear x0 x1 x2 x3 x4 x5 x6 y0 y1 y2 y3
  refine (show Calls _ _ _ _ _ from fZV W6 A0 A1 A2 A3 (some ad) c0 c1 c2 c3 c4 n0 n1 n2 n3 C.length C dep loc c x.f3 g5 g6).mono ?_
  rintro e W7 ⟨rfl,bel⟩
  have HB7:=hid_ (And.intro (HB6.out.1.trans (bel.mono HB6.out.1.size)) (And.intro (nxt_ HB6.out.2.1 bel) (nxt_ HB6.out.2.2 bel)))
  clear HB6 bel
  clear g1 g2 g3 g4 g5 g6
  have hG:=HG.out
  generalize bZk (K0 n0 n1 n2 n3 C dep loc) (letR a) x.f1=ba at hG ⊢
  generalize bZk (K0 n0 n1 n2 n3 C dep loc) (letR b) x.f2=bb at hG ⊢
  generalize bZk (K0 n0 n1 n2 n3 C dep loc) (letR c) x.f3=bc at hG ⊢
  obtain ⟨R,hR⟩:∃ R,R=bZi (K0 n0 n1 n2 n3 C dep loc) i:=⟨_,rfl⟩
  rw [←hR] at hG
  have HRR:=hid_ hR
  clear hR
  have HG:=hid_ hG
  clear hG
  obtain ⟨m,hm⟩:∃ m:Nat,m=C.length - 1:=⟨_,rfl⟩
  have w1:IntKind.i64.wrap ((C.length:Int) - 1)=(m:Int):=by rw [show (C.length:Int) - 1=(m:Int) by omega];exact IntWalk.i64_in _ ⟨by omega,by omega⟩
  have w2:wrap64 ((C.length:Int) - 1)=(m:Int):=by unfold wrap64;omega
  have HM:=hid_ (show i+1=C.length↔i=m by omega)
  obtain ⟨x0,x1,x2,x3,x4,x5,x6⟩:=dZ7 HB7.out.2.1
  obtain ⟨y0,y1,y2,y3⟩:=dZB HB7.out.2.2
  clear hm hi hn
  cases ba with
  | false =>
   have HF:=hid_ (show R=212 by rw [HG.out.1,if_pos (.inl rfl)])
   go_wp2_with (fail)
   go_ret
   rw [←HRR.out,HF.out]
   exact ⟨rfl,HB7.out.1⟩
  | true =>
  cases bb with
  | false =>
   have HF:=hid_ (show R=212 by rw [HG.out.1,if_pos (.inr (.inl rfl))])
   go_wp2_with (fail)
   go_ret
   rw [←HRR.out,HF.out]
   exact ⟨rfl,HB7.out.1⟩
  | true =>
  cases bc with
  | false =>
   have HF:=hid_ (show R=212 by rw [HG.out.1,if_pos (.inr (.inr rfl))])
   go_wp2_with (fail)
   go_ret
   rw [←HRR.out,HF.out]
   exact ⟨rfl,HB7.out.1⟩
  | true =>
  have HR:=hid_ (show R=cZ1 C.length i x.f0 x.f1 by rw [HG.out.1,if_neg (by decide)])
  have key:∀ (t:Bool),t=decide (a=7∧(x.f1≤i∨C.length≤x.f1))→R=if t=true then 213 else if x.f0=36↔i=m then 0 else 219:=fun t ht=>by
   rw [HR.out,ht]
   unfold cZ1
   have h10:=HG.out.2
   have hm:=HM.out
   by_cases q:a=7∧(x.f1≤i∨(C.length:Int)≤x.f1)
   · rw [if_pos ⟨h10.1 q.1,q.2⟩,decide_eq_true q,if_pos rfl]
   ·
    rw [if_neg (fun h=>q ⟨h10.2 h.1,h.2⟩),decide_eq_false q,if_neg Bool.false_ne_true]
    simp only [hm]
  have KEY:=hid_ key
  clear key
  by_cases q1:a=7∧(x.f1≤i∨(C.length:Int)≤x.f1)
  ·
   have HF:=hid_ (show R=213 by rw [KEY.out true (decide_eq_true q1).symm,if_pos rfl])
   have b7:(a == 7)=true:=beq_iff_eq.2 q1.1
   by_cases q2:x.f1≤i
   ·
    have d2:decide (x.f1≤(i:Int))=true:=decide_eq_true q2
    clear q1
    go_wp2_with (fail)
    go_ret
    rw [←HRR.out,HF.out]
    exact ⟨rfl,HB7.out.1⟩
   ·
    have d2:decide (x.f1≤(i:Int))=false:=decide_eq_false q2
    have d3:decide (x.f1≥(C.length:Int))=true:=decide_eq_true (q1.2.resolve_left q2)
    clear q1 q2
    go_wp2_with (fail)
    go_ret
    rw [←HRR.out,HF.out]
    exact ⟨rfl,HB7.out.1⟩
  ·
   have HR2:=hid_ (show R=if x.f0=36↔i=m then 0 else 219 by rw [KEY.out false (decide_eq_false q1).symm,if_neg Bool.false_ne_true])
   by_cases e7:a=7
   ·
    have b7:(a == 7)=true:=beq_iff_eq.2 e7
    have d2:decide (x.f1≤(i:Int))=false:=decide_eq_false (fun h=>q1 ⟨e7,.inl h⟩)
    have d3:decide (x.f1≥(C.length:Int))=false:=decide_eq_false (fun h=>q1 ⟨e7,.inr h⟩)
    clear q1 e7
    by_cases e36:x.f0=36
    ·
     have b36:(x.f0 == 36)=true:=beq_iff_eq.2 e36
     by_cases ei:i=m
     ·
      have HF:=hid_ (show R=0 by rw [HR2.out,if_pos ⟨fun _=>ei,fun _=>e36⟩])
      have bi:((i:Int) == (m:Int))=true:=by rw [beq_iff_eq];omega
      have bn:(i == m)=true:=beq_iff_eq.2 ei
      clear e36 ei
      go_wp2_with (fail)
      go_ret
      rw [←HRR.out,HF.out]
      exact ⟨rfl,HB7.out.1⟩
     ·
      have HF:=hid_ (show R=219 by rw [HR2.out,if_neg (fun h=>ei (h.1 e36))])
      have bi:((i:Int) == (m:Int))=false:=by rw [beq_eq_false_iff_ne];omega
      have bn:(i == m)=false:=beq_eq_false_iff_ne.2 ei
      clear e36 ei
      go_wp2_with (fail)
      go_ret
      rw [←HRR.out,HF.out]
      exact ⟨rfl,HB7.out.1⟩
    ·
     have b36:(x.f0 == 36)=false:=beq_eq_false_iff_ne.2 e36
     by_cases ei:i=m
     ·
      have HF:=hid_ (show R=219 by rw [HR2.out,if_neg (fun h=>e36 (h.2 ei))])
      have bi:((i:Int) == (m:Int))=true:=by rw [beq_iff_eq];omega
      have bn:(i == m)=true:=beq_iff_eq.2 ei
      clear e36 ei
      go_wp2_with (fail)
      go_ret
      rw [←HRR.out,HF.out]
      exact ⟨rfl,HB7.out.1⟩
     ·
      have HF:=hid_ (show R=0 by rw [HR2.out,if_pos ⟨fun h=>absurd h e36,fun h=>absurd h ei⟩])
      have bi:((i:Int) == (m:Int))=false:=by rw [beq_eq_false_iff_ne];omega
      have bn:(i == m)=false:=beq_eq_false_iff_ne.2 ei
      clear e36 ei
      go_wp2_with (fail)
      go_ret
      rw [←HRR.out,HF.out]
      exact ⟨rfl,HB7.out.1⟩
   ·
    have b7:(a == 7)=false:=beq_eq_false_iff_ne.2 e7
    clear q1 e7
    by_cases e36:x.f0=36
    ·
     have b36:(x.f0 == 36)=true:=beq_iff_eq.2 e36
     by_cases ei:i=m
     ·
      have HF:=hid_ (show R=0 by rw [HR2.out,if_pos ⟨fun _=>ei,fun _=>e36⟩])
      have bi:((i:Int) == (m:Int))=true:=by rw [beq_iff_eq];omega
      have bn:(i == m)=true:=beq_iff_eq.2 ei
      clear e36 ei
      go_wp2_with (fail)
      go_ret
      rw [←HRR.out,HF.out]
      exact ⟨rfl,HB7.out.1⟩
     ·
      have HF:=hid_ (show R=219 by rw [HR2.out,if_neg (fun h=>ei (h.1 e36))])
      have bi:((i:Int) == (m:Int))=false:=by rw [beq_eq_false_iff_ne];omega
      have bn:(i == m)=false:=beq_eq_false_iff_ne.2 ei
      clear e36 ei
      go_wp2_with (fail)
      go_ret
      rw [←HRR.out,HF.out]
      exact ⟨rfl,HB7.out.1⟩
    ·
     have b36:(x.f0 == 36)=false:=beq_eq_false_iff_ne.2 e36
     by_cases ei:i=m
     ·
      have HF:=hid_ (show R=219 by rw [HR2.out,if_neg (fun h=>e36 (h.2 ei))])
      have bi:((i:Int) == (m:Int))=true:=by rw [beq_iff_eq];omega
      have bn:(i == m)=true:=beq_iff_eq.2 ei
      clear e36 ei
      go_wp2_with (fail)
      go_ret
      rw [←HRR.out,HF.out]
      exact ⟨rfl,HB7.out.1⟩
     ·
      have HF:=hid_ (show R=0 by rw [HR2.out,if_pos ⟨fun h=>absurd h e36,fun h=>absurd h ei⟩])
      have bi:((i:Int) == (m:Int))=false:=by rw [beq_eq_false_iff_ne];omega
      have bn:(i == m)=false:=beq_eq_false_iff_ne.2 ei
      clear e36 ei
      go_wp2_with (fail)
      go_ret
      rw [←HRR.out,HF.out]
      exact ⟨rfl,HB7.out.1⟩
theorem walk_runs (w:World) (A0 A1 A2 A3 A4:Option Addr) (c0 c1 c2 c3 c4:Nat) (g:Pg) (hI:InPg w A0 A1 A2 A3 A4 c0 c1 c2 c3 c4 g) (hD:¬aZB g.T.length g.N.length g.S.length g.M.length g.C g.dep g.loc) (hn:¬g.C.length=0) :
 Calls Try.prog 31 #[aZ6 A0 A1 A2 A3 A4 c0 c1 c2 c3 c4 g] w (dZc w (bZ1 g)):=by
 have g0:¬ 32768<g.C.length:=fun e=>hD (.inl e)
 have g1:¬g.dep<0:=fun e=>hD (.inr (.inl e))
 have g2:¬ 128<g.dep:=fun e=>hD (.inr (.inr (.inl e)))
 have g3:¬g.loc<0:=fun e=>hD (.inr (.inr (.inr (.inl e))))
 have g4:¬ 1024<g.loc:=fun e=>hD (.inr (.inr (.inr (.inr (.inl e)))))
 have g5:¬ 4096<g.T.length+g.N.length+g.S.length+g.M.length:=fun e=>hD (.inr (.inr (.inr (.inr (.inr e)))))
 have d0:decide ((g.C.length:Int) > 32768)=false:=decide_eq_false (by omega)
 have d1:decide (g.dep<0)=false:=decide_eq_false (by omega)
 have d2:decide (g.dep > 128)=false:=decide_eq_false (by omega)
 have d3:decide (g.loc<0)=false:=decide_eq_false (by omega)
 have d4:decide (g.loc > 1024)=false:=decide_eq_false (by omega)
 have d5:decide ((g.T.length:Int)+(g.N.length:Int)+(g.S.length:Int)+(g.M.length:Int) > 4096)=false:=decide_eq_false (by omega)
 have e0:((g.C.length:Int) == 0)=false:=by rw [beq_eq_false_iff_ne];omega
 have G:=hid_ (And.intro (show 0<g.C.length∧g.C.length≤32768 by omega) (And.intro (show 0≤g.dep∧g.dep≤128 by omega) (show 0≤g.loc∧g.loc≤1024 by omega)))
 have L:=hid_ (show g.T.length≤4096∧g.N.length≤4096∧g.S.length≤4096∧g.M.length≤4096 by omega)
 have HD:=hid_ (And.intro hD hn)
 obtain ⟨p0,p1,p2⟩:=aZ5 w (.cells #[.slice A0 g.T.length c0,.slice A1 g.N.length c1,.slice A2 g.S.length c2,.slice A3 g.M.length c3,.slice A4 g.C.length c4,.int .i64 g.dep,.int .i64 g.loc] 28) (rdO 0 0)
 have hST:StL w ((w.alloc (.cells #[.slice A0 g.T.length c0,.slice A1 g.N.length c1,.slice A2 g.S.length c2,.slice A3 g.M.length c3,.slice A4 g.C.length c4,.int .i64 g.dep,.int .i64 g.loc] 28)).alloc (rdO 0 0)) w.heap.size A0 A1 A2 A3 A4 c0 c1 c2 c3 c4 g:=⟨p2,p0,hI.below p2⟩
 have HI:=hid_ hI
 clear p0 p2 hI g0 g1 g2 g3 g4 g5 hD hn
 unfold aZ6
 go_enter Try.func31,Try.ntmps31
 go_upto_region 1 with (fail)
 generalize (w.alloc (.cells #[.slice A0 g.T.length c0,.slice A1 g.N.length c1,.slice A2 g.S.length c2,.slice A3 g.M.length c3,.slice A4 g.C.length c4,.int .i64 g.dep,.int .i64 g.loc] 28)).alloc (rdO 0 0)=W1 at hST p1 ⊢
 have HST:=hid_ hST
 have HF:=hid_ p1
 clear p1 hST
 obtain ⟨x0,x1,x2,x3,x4,x5,x6⟩:=aZm HST.out.box
 obtain ⟨q0,q1,q2,q3⟩:=L.out
 go_upto_region 6 with (fail)
 clear d0 d1 d2 d3 d4 d5 e0 q0 q1 q2 q3 L
 go_upto_region 8 with ((with_reducible refine cZq (N:=69) rfl ?_);refine Kd.S_make kIn (w0:=W1) w.heap.size 23 (N:=69) rfl rfl 25 (.tmp 68) (.tmp 68) rfl (g.C.length:Int) rfl rfl Try.underlying25 (.slice none 0 0) 24 info23_ rfl (by decide) (by omega) [] (ok:=fun k=>W1.heap.size≤k) (okp:=fun _=>False) ⟨.slice none 0 0,rfl,Kd.R_nil _ _ _ _ _⟩ (fun _ h=>h.elim) (Nat.le_refl _) (by omega) (by rw [Int.toNat_natCast];have:=G.out;omega) (Below.refl _ _) HST.out.below.size ?_;intro vi W2 hS hb2 hg2 _;rw [Int.toNat_natCast] at hS)
 have hb3:Below W1.heap.size W1 W2:=⟨hg2.os,hg2.tape,hg2.output,hg2.size,fun k hk=>hg2.block k hk (by simp)⟩
 obtain ⟨gi,ci,hvi,-,-,-⟩:=Kd.S_form hS (by simp;exact G.out.1.1)
 rw [List.length_replicate] at hvi
 subst hvi
 have HINV:=hid_ (inv_start (HST.out.next hb3) (aZc HF.out hb3) W1.heap.size hS HD.out.1 HD.out.2)
 clear x0 x1 x2 x3 x4 x5 x6 hS hb2 hg2 hb3 HD HST HF
 go_wp2_with (fail)
 go_loopw [6,7,8] (fun s6 s7 s8 wr=>∃ (i:Nat) (I:Nat→Prop) (into:List (List Int)) (ahead after:List Pr),s8=.int .i64 i∧Inv w wr w.heap.size (w.heap.size+1) A0 A1 A2 A3 A4 c0 c1 c2 c3 c4 g i I (.slice (some ⟨gi,0,none⟩) g.C.length ci) s6 s7 into ahead after) (fun _ _ s8 _=>g.C.length - (intOf s8).toNat)
 case atStart=>exact ⟨0,_,_,_,_,rfl,HINV.out⟩
 case round =>
  obtain ⟨i,I,into,ahead,after,rfl,hinv⟩:=hrel
  have H:=hid_ hinv
  clear hinv HINV
  obtain ⟨x0,x1,x2,x3,x4,x5,x6⟩:=aZm H.out.sw.st.box
  by_cases hlt:i<g.C.length
  ·
   have d0:decide ((i:Int)<(g.C.length:Int))=true:=decide_eq_true (by omega)
   have hn:=G.out.1.2
   have hd:g.C.length - i=(g.C.length - i - 1)+1:=by omega
   have hres:=H.out.res
   rw [hd,refL] at hres
   have HRES:=hid_ hres
   clear hd hres
   obtain ⟨ad,ha,k0,k1,k2,k3⟩:=eZY H.out.sw.st.pg.C (i:Int) (by omega) (by omega)
   rw [Int.toNat_natCast] at k0 k1 k2 k3
   generalize hx:aZi g.C (i:Int)=x at k0 k1 k2 k3
   have HX:=hid_ hx
   clear hx
   subst ha
   go_upto_region 12 with (fail)
   have hA:=heap_alloc_new wr (.cells #[.int .i64 x.f0,.int .i64 x.f1,.int .i64 x.f2,.int .i64 x.f3] 66)
   have hb:=aZa (Below.refl wr.heap.size wr) (.cells #[.int .i64 x.f0,.int .i64 x.f1,.int .i64 x.f2,.int .i64 x.f3] 66)
   have HH:=hid_ (H.out.next hb)
   clear H x0 x1 x2 x3 x4 x5 x6 k0 k1 k2 k3 hb
   generalize wr.alloc (.cells #[.int .i64 x.f0,.int .i64 x.f1,.int .i64 x.f2,.int .i64 x.f3] 66)=W3 at hA HH ⊢
   generalize wr.heap.size=bx at hA ⊢
   have HA:=hid_ hA
   clear hA
   obtain ⟨x0,x1,x2,x3,x4,x5,x6⟩:=aZm HH.out.sw.st.box
   go_wp2_with (fail)
   clear x0 x1 x2 x3 x4 x5 x6
   refine (show Calls _ _ _ _ _ from early_any W3 A0 A1 A2 A3 (some ad) c0 c1 c2 c3 c4 g.T.length g.N.length g.S.length g.M.length g.C g.dep g.loc i HH.out.sw.st.pg.C hlt hn).mono ?_
   rintro e W4 ⟨rfl,bel⟩
   have H4:=hid_ (HH.out.next bel)
   have HA4:=hid_ (aZc HA.out bel)
   clear HH HA bel
   by_cases hf:bZi (KP g) i≠0
   ·
    have hres:=HRES.out
    rw [if_pos hf] at hres
    generalize bZi (KP g) i=fe at hf hres
    have HR:=hid_ hres
    clear hres HRES
    go_upto_region 14 with (fail)
    refine walk_r14 (by kernel_rfl) H4.out.sw.fx ?_
    intro _ _ _
    dsimp only
    go_step
    go_step
    (try go_step)
    refine bodyPost_ret (results31 _ _ (w.heap.size+1) fe i (.slice none 0 0) ?_ ?_ (setRow_heap _ _ _ _ _ _ H4.out.sw.fx)) ?_ ?_
    · kernel_rfl
    · kernel_rfl
    · kernel_rfl
    · exact cZP H4.out.sw.st.below (by omega) HR.out
   ·
    have hf0:=Classical.not_not.1 hf
    have hres:=HRES.out
    rw [if_neg hf] at hres
    have HR:=hid_ hres
    have HF0:=hid_ hf0
    rw [hf0]
    clear hres HRES hf hf0
    obtain ⟨x0,x1,x2,x3,x4,x5,x6⟩:=aZm H4.out.sw.st.box
    go_upto_region 16 with ((with_reducible refine cZq (N:=92) rfl ?_);refine Kd.R_make (Kd.int .i64) (w0:=W4) W4.heap.size 3 (N:=92) rfl rfl 23 (.tmp 91) (.tmp 91) rfl g.loc rfl rfl Try.underlying23 (.int .i64 0) 8 info3 rfl (by decide) (by omega) 0 (ok:=fun _=>True) (okp:=fun _=>False) rfl (fun _ h=>h.elim) trivial (by have:=G.out;omega) (by have:=G.out;omega) (Below.refl _ _) (Nat.le_refl _) ?_;intro vl W5 hrl hb5 hg5 _;obtain ⟨Al,cl,hvl⟩:=Kd.R_slice hrl;rw [List.length_replicate] at hvl;subst hvl)
    have hZ:=heap_alloc_new W5 (.cells #[.slice none 0 0,.slice Al g.loc.toNat cl] 94)
    have hbb:=aZa (Below.refl W5.heap.size W5) (.cells #[.slice none 0 0,.slice Al g.loc.toNat cl] 94)
    have hB6:=hb5.trans (hbb.mono hb5.size)
    have hrl6:=hZw (I:=I) (Kd.R_below hrl hbb) H4.out.sw.lt H4.out.sw.st.below.size
    have hbs:=hb5.size
    clear hrl hb5 hg5 hbb x0 x1 x2 x3 x4 x5 x6
    generalize W5.alloc (.cells #[.slice none 0 0,.slice Al g.loc.toNat cl] 94)=W6 at hZ hB6 hrl6 ⊢
    generalize W5.heap.size=bs at hZ hbs ⊢
    have HBS:=hid_ hbs
    obtain ⟨hgood,hfrom⟩:=from_good H4.out G.out.2.1.2
    have HGD:=hid_ hgood
    have HFG:=hid_ hfrom
    clear hgood hfrom hbs
    have z0:W6.cell? ⟨bs,0,none⟩=some (.slice none 0 0):=by simp [World.cell?,hZ]
    have z1:W6.cell? ⟨bs,1,none⟩=some (.slice Al g.loc.toNat cl):=by simp [World.cell?,hZ]
    have zf:=froz hZ
    have HZ:=hid_ (And.intro hZ (And.intro hB6 hrl6))
    clear hZ hB6 hrl6
    go_upto_if 95 with (fail)
    go_cut [] (fun wx=>SBox w wx I bs (dZp g.loc after i)∧Below W4.heap.size W4 wx)
    case first =>
     by_cases hi0:i=0
     ·
      have hfr:dZp g.loc after i=([],List.replicate g.loc.toNat 0):=if_pos hi0
      have hge:¬(0:Int)<(i:Int):=by omega
      have hge2:¬ 0<i:=by omega
      have HFR:=hid_ hfr
      clear hi0 hfr
      go_wp2_with (fail)
      go_meet
      rw [HFR.out]
      have el:(([],List.replicate g.loc.toNat (0:Int)):Pr).2.length=g.loc.toNat:=List.length_replicate
      refine ⟨⟨none,0,Al,cl,?_,Kd.R_nil _ _ _ _ _,?_⟩,HZ.out.2.1⟩
      · rw [el];exact HZ.out.1
      · rw [el];exact HZ.out.2.2
     ·
      obtain ⟨p,hp⟩:∃ p,i=p+1:=⟨i - 1,by omega⟩
      have hfr:dZp g.loc after i=after.getD p ([],[]):=by unfold dZp;rw [if_neg hi0,hp];rfl
      have hla:=H4.out.la
      obtain ⟨ad7,c7,Aa,ca,Ab,cb,hu7,k0,k1,r1,r2⟩:=hZt (Kd.R_below H4.out.sw.after HZ.out.2.1) (fun k hk=>hk.1) p (by omega)
      obtain ⟨s0,hs0⟩:∃ s0,s0=dZp g.loc after i:=⟨_,rfl⟩
      rw [←hfr,←hs0] at k0 k1 r1 r2
      rw [hla] at hu7
      subst hu7
      have hgt:(0:Int)<(i:Int):=by omega
      have hgt2:0<i:=by omega
      have ew:IntKind.i64.wrap ((i:Int) - 1)=(p:Int):=by rw [show (i:Int) - 1=(p:Int) by omega];exact IntWalk.i64_in _ ⟨by omega,by omega⟩
      have e2:wrap64 ((i:Int) - 1)=(p:Int):=by unfold wrap64;omega
      have i0:(0:Int)≤(p:Int):=by omega
      have i1:(p:Int)<(i:Int):=by omega
      have i2:p<i:=by omega
      have HRR:=hid_ (And.intro r1 r2)
      have HS00:=hid_ hs0
      clear hi0 hfr hla r1 r2 hp hs0
      go_wp2_with (fail)
      go_meet
      rw [←HS00.out]
      exact ⟨SBox.set2 HZ.out.1 HRR.out.1 HRR.out.2,(HZ.out.2.1.setCell HBS.out _).setCell HBS.out _⟩
    case rest =>
    obtain ⟨hsb,hbw⟩:=hcut
    have HS0:=hid_ (And.intro hsb hbw)
    clear hsb hbw HZ z0 z1 zf W6 W5
    obtain ⟨l,hl⟩:∃ l,l=into.getD i []:=⟨_,rfl⟩
    have hll:l.length≤i:=by rw [hl];exact H4.out.inlen i
    have hlq:∀ q∈l,0≤q∧q<i:=by rw [hl];exact H4.out.inlt i
    have hres:=HR.out
    rw [←hl] at hres
    obtain ⟨s0,hs0⟩:∃ s0,s0=dZp g.loc after i:=⟨_,rfl⟩
    have hS0:=HS0.out
    have hG0:=HFG.out
    rw [←hs0] at hS0 hG0
    rw [show (KP g).loc=g.loc from rfl,←hs0] at hres
    have HLE:=hid_ hl
    have HLQ:=hid_ hlq
    have HR:=hid_ hres
    have HS0:=hid_ (And.intro hS0 hG0)
    clear hl hlq hres hS0 hG0 hs0 HFG
    go_upto_block 2 with (fail)
    go_cut [] (fun wx=>∃ s,dZN after l s0=some s∧gZM g s∧SBox w wx I bs s∧Below W4.heap.size W4 wx)
    case first =>
     go_wp2_with (fail)
     go_loopw [12] (fun s12 wx=>∃ (kk:Nat) (s:Pr),s12=.int .i64 kk∧kk≤l.length∧SBox w wx I bs s∧gZM g s∧dZN after l s0=dZN after (l.drop kk) s∧Below W4.heap.size W4 wx) (fun s12 _=>l.length - (intOf s12).toNat)
     case atStart=>exact ⟨0,s0,rfl,Nat.zero_le _,HS0.out.1.1,HS0.out.2,rfl,HS0.out.1.2⟩
     case round =>
      obtain ⟨kk,s,rfl,hkk,hsb,hgs,hjo,hbw⟩:=hrel
      have H:=hid_ (H4.out.next hbw)
      obtain ⟨Ar,cr,ci0,hcr,hCl⟩:=into_at' H.out.sw.into i hlt
      rw [←HLE.out] at ci0 hcr hCl
      have i0:(0:Int)≤(i:Int):=by omega
      have i1:(i:Int)<(g.C.length:Int):=by omega
      by_cases hkl:kk<l.length
      ·
       obtain ⟨ar,har,cq⟩:=Kd.at_int hCl (kk:Int) (by omega) (by omega)
       subst har
       rw [Int.toNat_natCast] at cq
       obtain ⟨hq0,hq1⟩:=HLQ.out _ (rd_mem hkl)
       obtain ⟨p,hp⟩:∃ p:Nat,rd l (kk:Int)=p:=⟨(rd l (kk:Int)).toNat,by omega⟩
       obtain ⟨hdr,-⟩:=drop_at hkl hp
       rw [hp] at cq hq0 hq1
       obtain ⟨ad7,c7,Aa,ca,Ab,cb,hu7,k0,k1,r1,r2⟩:=hZt H.out.sw.after (fun k hk=>hk.1) p (by rw [H4.out.la];omega)
       rw [H4.out.la] at hu7
       subst hu7
       have hgp:=HGD.out p (by omega)
       obtain ⟨t,ht⟩:∃ t,t=after.getD p ([],[]):=⟨_,rfl⟩
       rw [←ht] at k0 k1 r1 r2 hgp
       have hat:atP after (p:Int)=t:=by unfold atP;rw [Int.toNat_natCast,ht]
       rw [hdr,dZN,hat] at hjo
       obtain ⟨B1,d1,B2,d2,hbs,q1,q2⟩:=hsb
       have HJ:=hid_ (And.intro hjo (And.intro hgs hgp))
       have HR12:=hid_ (And.intro r1 (And.intro r2 (And.intro q1 (And.intro q2 hbs))))
       have HBW:=hid_ hbw
       have HHL:=hid_ (And.intro hdr (And.intro hp ht))
       have j0:(0:Int)≤(kk:Int):=by omega
       have j1:(kk:Int)<(l.length:Int):=by omega
       have p2:p<i:=by omega
       clear hjo hgs hgp r1 r2 q1 q2 hbs hbw hdr hp ht hat hCl
       go_upto_region 22 with (fail)
       have hT:=heap_alloc_new wr (.cells #[.slice Aa t.1.length ca,.slice Ab t.2.length cb] 94)
       have hb:=aZa (Below.refl wr.heap.size wr) (.cells #[.slice Aa t.1.length ca,.slice Ab t.2.length cb] 94)
       have hBS:=aZc HR12.out.2.2.2.2 hb
       clear ci0 cq k0 k1 H
       generalize wr.alloc (.cells #[.slice Aa t.1.length ca,.slice Ab t.2.length cb] 94)=V at hT hb hBS ⊢
       generalize wr.heap.size=bt at hT ⊢
       have y0:V.cell? ⟨bs,0,none⟩=some (.slice B1 s.1.length d1):=by simp [World.cell?,hBS]
       have y1:V.cell? ⟨bt,0,none⟩=some (.slice Aa t.1.length ca):=by simp [World.cell?,hT]
       have HV:=hid_ (And.intro hT (And.intro hb hBS))
       clear hT hb hBS
       go_wp2_with (fail)
       clear y0 y1
       refine (show Calls _ _ _ _ _ from berthref21_sameInts.calls (s.1.length+1) B1 d1 s.1 Aa ca t.1 _ V (Kd.C_below (Kd.R_reads' HR12.out.2.2.1).2.2 HV.out.2.1) (Kd.R_reads' HR12.out.2.2.1).2.1 (Kd.C_below (Kd.R_reads' HR12.out.1).2.2 HV.out.2.1) (Kd.R_reads' HR12.out.1).2.1 (dZY s.1 t.1 (by have:=HJ.out.2.1.2;omega) _ (Nat.lt_succ_self _))).mono ?_
       rintro e V2 ⟨rfl,hdw⟩
       have hb2:=Drawn0.below_ hdw
       have HV2:=hid_ (And.intro (aZc HV.out.1 hb2) (And.intro (HV.out.2.1.trans (hb2.mono HV.out.2.1.size)) (aZc HV.out.2.2 hb2)))
       clear hdw hb2 HV
       by_cases hst:s.1=t.1
       ·
        have hjo:=HJ.out.1
        rw [if_pos hst] at hjo
        have HJO:=hid_ hjo
        rw [decide_eq_true hst]
        clear hjo hst
        have y0:V2.cell? ⟨bs,1,none⟩=some (.slice B2 s.2.length d2):=by simp [World.cell?,HV2.out.2.2]
        have y1:V2.cell? ⟨bt,1,none⟩=some (.slice Ab t.2.length cb):=by simp [World.cell?,HV2.out.1]
        go_wp2_with (fail)
        clear y0 y1
        refine (show Calls _ _ _ _ _ from iZa V2 (.slice B2 s.2.length d2) Ab cb s.2 t.2 _ _ (Kd.R_below HR12.out.2.2.2.1 HV2.out.2.1) (Kd.C_below (Kd.R_reads' HR12.out.2.1).2.2 HV2.out.2.1) (Kd.R_reads' HR12.out.2.1).2.1 (HJ.out.2.1.1.1.trans HJ.out.2.2.1.1.symm) (by have h1:=HJ.out.2.1.1.1;have:=G.out;omega)).mono ?_
        rintro e V3 ⟨v,rfl,bel3,hv⟩
        have hbw3:Below W4.heap.size W4 V3:=HBW.out.trans ((HV2.out.2.1.trans (bel3.mono HV2.out.2.1.size)).mono HBW.out.size)
        have hv3:(Kd.int .i64).R 3 V3 w.heap.size (fun k=>¬I k) v (aZH s.2 t.2):=by
         rcases hv with ⟨rfl,hm⟩|hv
         ·
          rw [hm]
          exact Kd.R_below (Kd.R_below HR12.out.2.2.2.1 HV2.out.2.1) bel3
         ·
          have hsz:W4.heap.size≤V2.heap.size:=Nat.le_trans HBW.out.size HV2.out.2.1.size
          exact hZw hv (fun k hk=>Nat.lt_of_lt_of_le (H4.out.sw.lt k hk) hsz) (Nat.le_trans H4.out.sw.st.below.size hsz)
        have hs3:(Kd.int .i64).R 3 V3 w.heap.size (fun k=>¬I k) (.slice B1 s.1.length d1) s.1:=Kd.R_below (Kd.R_below HR12.out.2.2.1 HV2.out.2.1) bel3
        have hbs3:=aZc HV2.out.2.2 bel3
        clear hv bel3
        obtain ⟨A9,c9,rfl⟩:=Kd.R_slice hv3
        have y0:V3.cell? ⟨bs,1,none⟩=some (.slice B2 s.2.length d2):=by simp [World.cell?,hbs3]
        have yf:=froz hbs3 1
        have HE:=hid_ (And.intro hv3 (And.intro hs3 (And.intro hbs3 hbw3)))
        have hkl2:=hkl
        clear hv3 hs3 hbs3 hbw3
        go_wp2_with (fail)
        go_roundw
        case rel=>exact ⟨kk+1,(s.1,aZH s.2 t.2),by go_num,hkl2,SBox.set1 HE.out.2.2.1 HE.out.2.1 HE.out.1,gZY HJ.out.2.1 HJ.out.2.2,HJO.out,HE.out.2.2.2.setCell HBS.out _⟩
        case measure=>simp [intOf];omega
       ·
        have hjo:=HJ.out.1
        rw [if_neg hst] at hjo
        have hres:=HR.out
        rw [hjo] at hres
        have HRR:=hid_ hres
        rw [decide_eq_false hst]
        have hfx:=aZc (aZc H4.out.sw.fx HBW.out) HV2.out.2.1
        have hbwl:=H4.out.sw.st.below.trans ((HBW.out.trans (HV2.out.2.1.mono HBW.out.size)).mono H4.out.sw.st.below.size)
        have HFX:=hid_ (And.intro hfx hbwl)
        clear hjo hst hres hfx hbwl
        go_upto_region 24 with (fail)
        refine walk_r24 (by kernel_rfl) HFX.out.1 ?_
        intro _ _
        dsimp only
        go_step
        go_step
        (try go_step)
        refine bodyPost_ret (results31 _ _ (w.heap.size+1) 218 i (.slice none 0 0) ?_ ?_ (setRow_heap _ _ _ _ _ _ HFX.out.1)) ?_ ?_
        · kernel_rfl
        · kernel_rfl
        · kernel_rfl
        · exact cZP HFX.out.2 (by omega) HRR.out
      ·
       have hke:kk=l.length:=by omega
       have hge:¬(kk:Int)<(l.length:Int):=by omega
       have HJ:=hid_ (And.intro hjo (And.intro hgs (And.intro hsb (And.intro hbw hke))))
       clear hjo hgs hsb hbw hke hkl
       go_wp2_with (fail)
       go_meet
       exact ⟨s,by rw [HJ.out.1,HJ.out.2.2.2.2,List.drop_length];rfl,HJ.out.2.1,HJ.out.2.2.1,HJ.out.2.2.2.1⟩
    case rest =>
    obtain ⟨s,hjs,hgs,hsb,hbw⟩:=hcut
    obtain ⟨V4,hV4⟩:∃ V4,V4=wc:=⟨_,rfl⟩
    subst hV4
    have hres:=HR.out
    rw [hjs] at hres
    dsimp only at hres
    obtain ⟨f1,f2,f3⟩:=gZ9 HF0.out
    have hxk:aZi (KP g).C (i:Int)=x:=HX.out
    rw [hxk] at hres f1 f2 f3
    have hA5:=aZc HA4.out hbw
    have H5:=hid_ (H4.out.next hbw)
    obtain ⟨B1,d1,B2,d2,hbs,q1,q2⟩:=hsb
    obtain ⟨a0,a1,a2,a3⟩:=hZN hA5
    obtain ⟨z0,z1⟩:V4.cell? ⟨bs,0,none⟩=some (.slice B1 s.1.length d1)∧V4.cell? ⟨bs,1,none⟩=some (.slice B2 s.2.length d2):=by simp [World.cell?,hbs]
    have HA5:=hid_ hA5
    have HSB:=hid_ (And.intro hbs (And.intro q1 q2))
    have HGS:=hid_ hgs
    have HRES:=hid_ hres
    have HFF:=hid_ (And.intro f1 (And.intro f2 f3))
    clear HS0 HR hjs hgs hbs q1 q2 hres f1 f2 f3 hxk hA5 hbw
    go_wp2_with (fail)
    clear a0 a1 a2 a3 z0 z1
    refine (show Calls _ _ _ _ _ from iZq V4 x (.slice B1 s.1.length d1) (.slice B2 s.2.length d2) s.1 s.2 _ _ HSB.out.2.1 HSB.out.2.2 HFF.out.1 HFF.out.2.1 (fun h=>by have:=HFF.out.2.2 h;have h2:=HGS.out.1.1;have h3:(KP g).loc=g.loc:=rfl;omega) (by have:=HGS.out.2;omega) (by have h2:=HGS.out.1.1;have:=G.out;omega)).mono ?_
    rintro e W7 ⟨bel,hbe⟩
    have H7:=hid_ (H5.out.next bel)
    have HA7:=hid_ (aZc HA5.out bel)
    have HSB7:=hid_ (And.intro (aZc HSB.out.1 bel) (And.intro (Kd.R_below HSB.out.2.1 bel) (Kd.R_below HSB.out.2.2 bel)))
    have HSZ:=hid_ bel.size
    clear HA5 bel
    cases hbf:aZS x s.1 s.2 with
    | error n =>
     rw [hbf] at hbe
     obtain rfl:=hbe
     have hn0:=iZo hbf
     have hres:=HRES.out
     rw [hbf] at hres
     have HRR:=hid_ (show bZ1 g=.error ((i:Int),n) from hres)
     have e0:(n == 0)=false:=by rw [beq_eq_false_iff_ne];exact hn0
     clear hres hbf
     have hfx:=aZc H7.out.sw.fx (aZa (Below.refl W7.heap.size W7) (.cells #[.slice B1 s.1.length d1,.slice B2 s.2.length d2] 94))
     have HFX:=hid_ (And.intro hfx (H7.out.sw.st.below.trans ((aZa (Below.refl W7.heap.size W7) (.cells #[.slice B1 s.1.length d1,.slice B2 s.2.length d2] 94)).mono H7.out.sw.st.below.size)))
     clear hfx
     go_upto_region 32 with (fail)
     refine fZC (by kernel_rfl) HFX.out.1 ?_
     intro _ _ _
     dsimp only
     go_step
     go_step
     (try go_step)
     refine bodyPost_ret (results31 _ _ (w.heap.size+1) n i (.slice none 0 0) ?_ ?_ (setRow_heap _ _ _ _ _ _ HFX.out.1)) ?_ ?_
     · kernel_rfl
     · kernel_rfl
     · kernel_rfl
     · exact cZP HFX.out.2 (by omega) HRR.out
    | ok t =>
     rw [hbf] at hbe
     obtain ⟨v1,v2,rfl,t1,t2⟩:=hbe
     have r1:=hZw t1 H5.out.sw.lt H5.out.sw.st.below.size
     have r2:(Kd.int .i64).R 3 W7 w.heap.size (fun k=>¬I k) v2 t.2:=by
      rcases t2 with ⟨rfl,ht⟩|t2
      · rw [ht];exact HSB7.out.2.2
      · exact hZw t2 H5.out.sw.lt H5.out.sw.st.below.size
     obtain ⟨C1,e1,rfl⟩:=Kd.R_slice r1
     obtain ⟨C2,e2,rfl⟩:=Kd.R_slice r2
     have hgt:=eZX HGS.out.1 hbf
     have hres:=HRES.out
     rw [hbf] at hres
     have HBF:=hid_ hbf
     clear t1 t2 hbf
     go_upto_region 27 with (fail)
     have hT:=heap_alloc_new W7 (.cells #[.slice C1 t.1.length e1,.slice C2 t.2.length e2] 94)
     have hb8:=aZa (Below.refl W7.heap.size W7) (.cells #[.slice C1 t.1.length e1,.slice C2 t.2.length e2] 94)
     have H8:=hid_ (H7.out.next hb8)
     have HA8:=hid_ (aZc HA7.out hb8)
     have HSB8:=hid_ (And.intro (aZc HSB7.out.1 hb8) (And.intro (Kd.R_below HSB7.out.2.1 hb8) (Kd.R_below HSB7.out.2.2 hb8)))
     have HT8:=hid_ (And.intro hT (And.intro (Kd.R_below r1 hb8) (Kd.R_below r2 hb8)))
     have hvlt:=Kd.R_lt H7.out.sw.ahead
     clear hb8 r1 r2 hT H7 HA7 HSB7
     generalize W7.alloc (.cells #[.slice C1 t.1.length e1,.slice C2 t.2.length e2] 94)=W8 at H8 HA8 HSB8 HT8 ⊢
     generalize W7.heap.size=bt at HT8 hvlt ⊢
     have HVL:=hid_ hvlt
     clear hvlt
     obtain ⟨x0,x1,x2,x3,x4,x5,x6⟩:=aZm H8.out.sw.st.box
     obtain ⟨a0,a1,a2,a3⟩:=hZN HA8.out
     have z0:W8.cell? ⟨bt,0,none⟩=some (.slice C1 t.1.length e1):=by simp [World.cell?,HT8.out.1]
     have hdepk:(KP g).dep=g.dep:=rfl
     rw [hdepk] at hres
     by_cases hdp:g.dep<(t.1.length:Int)
     ·
      have HRR:=hid_ (show bZ1 g=.error ((i:Int),216) by rw [hres];unfold endR;dsimp only;rw [if_pos hdp])
      have dd:decide ((t.1.length:Int) > g.dep)=true:=decide_eq_true hdp
      clear hres hdp
      go_upto_region 32 with (fail)
      refine fZC (by kernel_rfl) H8.out.sw.fx ?_
      intro _ _ _
      dsimp only
      go_step
      go_step
      (try go_step)
      refine bodyPost_ret (results31 _ _ (w.heap.size+1) 216 i (.slice none 0 0) ?_ ?_ (setRow_heap _ _ _ _ _ _ H8.out.sw.fx)) ?_ ?_
      · kernel_rfl
      · kernel_rfl
      · kernel_rfl
      · exact cZP H8.out.sw.st.below (by omega) HRR.out
     ·
      have dd:decide ((t.1.length:Int) > g.dep)=false:=decide_eq_false hdp
      by_cases h36:x.f0=36∧0<t.1.length
      ·
       have HRR:=hid_ (show bZ1 g=.error ((i:Int),219) by rw [hres];unfold endR;dsimp only;rw [if_neg hdp,if_pos h36])
       have d36:(x.f0 == 36)=true:=by rw [beq_iff_eq];exact h36.1
       have dp0:(0:Int)<(t.1.length:Int):=by omega
       have dp1:0<t.1.length:=h36.2
       clear hres hdp h36
       go_upto_region 32 with (fail)
       refine fZC (by kernel_rfl) H8.out.sw.fx ?_
       intro _ _ _
       dsimp only
       go_step
       go_step
       (try go_step)
       refine bodyPost_ret (results31 _ _ (w.heap.size+1) 219 i (.slice none 0 0) ?_ ?_ (setRow_heap _ _ _ _ _ _ H8.out.sw.fx)) ?_ ?_
       · kernel_rfl
       · kernel_rfl
       · kernel_rfl
       · exact cZP H8.out.sw.st.below (by omega) HRR.out
      ·
       have HRR:=hid_ (show bZ1 g=refL (KP g) (g.C.length - i - 1) (i+1) (after++[t]) (cZ2 into x i) (ahead++[s]) by rw [hres];unfold endR;dsimp only;rw [if_neg hdp,if_neg h36])
       have HDP:=hid_ (show (t.1.length:Int)≤g.dep by omega)
       have H36:=hid_ h36
       clear hres hdp h36
       go_upto_region 29 with (fail)
       go_cut [163] (fun s wx=>s=.bool false∧wx=W8)
       case first =>
        by_cases h6:x.f0=36
        ·
         have d36:(x.f0 == 36)=true:=by rw [beq_iff_eq];exact h6
         have hl0:t.1.length=0:=by have:=H36.out;omega
         have hl1:¬(0:Int)<(t.1.length:Int):=by omega
         have hl2:¬ 0<t.1.length:=by omega
         have dl:decide ((t.1.length:Int) > 0)=false:=decide_eq_false hl1
         clear h6 hl0
         go_wp2_with (fail)
         go_meet
         exact ⟨rfl,rfl⟩
        ·
         have d36:(x.f0 == 36)=false:=by rw [beq_eq_false_iff_ne];exact h6
         clear h6
         go_wp2_with (fail)
         go_meet
         exact ⟨rfl,rfl⟩
       case rest =>
       obtain ⟨rfl,hwc⟩:=hcut
       rw [hwc]
       clear hwc wc dd
       clear x0 x1 x2 x3 x4 x5 x6 z0
       go_upto_region 33 with (fail)
       go_cut [176] (fun s wx=>s=.bool (decide (x.f0=33∨x.f0=34))∧wx=W8)
       case first =>
        by_cases h3:x.f0=33
        ·
         have d3:(x.f0 == 33)=true:=by rw [beq_iff_eq];exact h3
         have hd:decide (x.f0=33∨x.f0=34)=true:=decide_eq_true (.inl h3)
         have HD:=hid_ hd
         clear h3 hd
         go_wp2_with (fail)
         go_meet
         exact ⟨by rw [HD.out],rfl⟩
        ·
         have d3:(x.f0 == 33)=false:=by rw [beq_eq_false_iff_ne];exact h3
         by_cases h4:x.f0=34
         ·
          have d4:(x.f0 == 34)=true:=by rw [beq_iff_eq];exact h4
          have hd:decide (x.f0=33∨x.f0=34)=true:=decide_eq_true (.inr h4)
          have HD:=hid_ hd
          clear h3 h4 hd
          go_wp2_with (fail)
          go_meet
          exact ⟨by rw [HD.out],rfl⟩
         ·
          have d4:(x.f0 == 34)=false:=by rw [beq_eq_false_iff_ne];exact h4
          have hd:decide (x.f0=33∨x.f0=34)=false:=decide_eq_false (fun h=>h.elim h3 h4)
          have HD:=hid_ hd
          clear h3 h4 hd
          go_wp2_with (fail)
          go_meet
          exact ⟨by rw [HD.out],rfl⟩
       case rest =>
       obtain ⟨rfl,hwc⟩:=hcut
       rw [hwc]
       clear hwc wc
       go_upto_if 176 with (fail)
       go_cut [] (fun wx=>∃ I',Noted w W8 wx I I' (.slice (some ⟨gi,0,none⟩) g.C.length ci) (cZ2 into x i))
       case first =>
        by_cases hj:x.f0=33∨x.f0=34
        ·
         have hxk:aZi (KP g).C (i:Int)=x:=HX.out
         obtain ⟨j1,j2⟩:=gZy HF0.out (by rw [hxk];exact hj)
         rw [hxk] at j1 j2
         have j3:(KP g).C.length=g.C.length:=rfl
         rw [j3] at j2
         have j4:x.f1.toNat<g.C.length:=by omega
         have j5:(0:Int)≤x.f1:=by omega
         obtain ⟨oki,Au,cu,k1,k2,k3,hne,hng,hput⟩:=hZ6 (A:=x.f1.toNat) H8.out.sw j4
         have hlen:(into.getD x.f1.toNat []).length≤100000:=by have:=H8.out.inlen x.f1.toNat;omega
         have hinto:cZ2 into x i=into.set x.f1.toNat (into.getD x.f1.toNat []++[(i:Int)]):=if_pos hj
         have HPUT:=hid_ (And.intro hinto hput)
         have hnb:=hne bx _ 66 HA8.out (by decide)
         rw [decide_eq_true hj]
         generalize into.getD x.f1.toNat []=lu at k1 k3 hnb hng hlen HPUT
         clear hj hxk j1 j3 hne hput hinto
         go_upto_region 34 with (fail)
         refine walk_r34 (by kernel_rfl) a1 k1 k2 k3 hnb hng j5 j2 H8.out.sw.st.below.size hlen (fun _ _ _ _ _ h=>h) ?_
         intro _ _ _ _ _ _ _ _ _ _ _ _ A2' c2' w1 hr hg
         clear a0 a1 a2 a3 k1 k2 k3 hnb hng
         go_wp2_with (fail)
         go_meet
         rw [HPUT.out.1]
         exact HPUT.out.2 w1 _ _ hr hg
        ·
         have hinto:cZ2 into x i=into:=if_neg hj
         have HJ:=hid_ hinto
         rw [decide_eq_false hj]
         clear hj hinto
         go_wp2_with (fail)
         go_meet
         rw [HJ.out]
         exact ⟨I,Noted.idle H8.out.sw⟩
       case rest =>
       obtain ⟨I',hn'⟩:=hcut
       obtain ⟨V9,hV9⟩:∃ V9,V9=wc:=⟨_,rfl⟩
       subst hV9
       have HN:=hid_ hn'
       have SW:=hid_ (hn'.sw H8.out.sw HI.out)
       have rs1:=hn'.row HSB8.out.2.1
       have rs2:=hn'.row HSB8.out.2.2
       have rt1:=hn'.row HT8.out.2.1
       have rt2:=hn'.row HT8.out.2.2
       have hbs9:=(hn'.typed _ _ _ HSB8.out.1 (by decide) (by decide)).trans HSB8.out.1
       have hbt9:=(hn'.typed _ _ _ HT8.out.1 (by decide) (by decide)).trans HT8.out.1
       have HR9:=hid_ (And.intro rs1 (And.intro rs2 (And.intro rt1 (And.intro rt2 hbt9))))
       obtain ⟨y0,y1⟩:V9.cell? ⟨bs,0,none⟩=some (.slice B1 s.1.length d1)∧V9.cell? ⟨bs,1,none⟩=some (.slice B2 s.2.length d2):=by simp [World.cell?,hbs9]
       clear hn' rs1 rs2 rt1 rt2 hbs9 hbt9 a0 a1 a2 a3
       have hlen1:(ahead.length+1)*48≤140737488355328:=by rw [H8.out.lah];omega
       have hlen2:(after.length+1)*48≤140737488355328:=by rw [H8.out.la];omega
       have z94:Value.cells (.agg #[.slice none 0 0,.slice none 0 0])=#[.slice none 0 0,.slice none 0 0]:=rfl
       go_upto_region 36 with ((with_reducible refine aZh (b:=.append) (xs:=#[.tmp 189,.tmp 191]) rfl ?_);at_builtin;refine Kd.R_append kSt (w0:=V9) w.heap.size rfl (.tmp 189) (.tmp 191) 90 94 (.agg #[.slice none 0 0,.slice none 0 0]) 48 rfl Try.underlying90 info94_ rfl (by decide) (by omega) u6 ahead s [.slice B1 s.1.length d1,.slice B2 s.2.length d2] (fun k=>¬I' k∧some k≠u7.ownBlock) _ rfl rfl (push_M SW.out HR9.out.1 HR9.out.2.1) (fun _ hk=>hk) (fun k hk=>⟨fun hi=>Nat.lt_irrefl _ (Nat.lt_of_lt_of_le (SW.out.lt k hi) hk),fun e=>Nat.lt_irrefl _ (Nat.lt_of_lt_of_le (Kd.R_lt SW.out.after k e.symm) hk)⟩) SW.out.ahead (Below.refl _ _) SW.out.st.below.size hlen1 ?_;intro va2 w2 hr2 hb2 hg2 hat2)
       have SW2:=hid_ (SW.out.push_ahead HI.out hr2 hb2 hg2 hat2)
       have rt1:=gZa SW.out HR9.out.2.2.1 hg2
       have rt2:=gZa SW.out HR9.out.2.2.2.1 hg2
       have hbt2:=(hg2.block bt (aZd HR9.out.2.2.2.2) (fun e=>Nat.lt_irrefl _ (HVL.out bt e.symm))).trans HR9.out.2.2.2.2
       have HR2:=hid_ (And.intro rt1 rt2)
       obtain ⟨z0,z1⟩:w2.cell? ⟨bt,0,none⟩=some (.slice C1 t.1.length e1)∧w2.cell? ⟨bt,1,none⟩=some (.slice C2 t.2.length e2):=by simp [World.cell?,hbt2]
       clear y0 y1 hr2 hb2 hg2 hat2 rt1 rt2 hbt2 hlen1
       go_wp2_with ((with_reducible refine aZh (b:=.append) (xs:=#[.tmp 193,.tmp 195]) rfl ?_);at_builtin;refine Kd.R_append kSt (w0:=w2) w.heap.size rfl (.tmp 193) (.tmp 195) 90 94 (.agg #[.slice none 0 0,.slice none 0 0]) 48 rfl Try.underlying90 info94_ rfl (by decide) (by omega) u7 after t [.slice C1 t.1.length e1,.slice C2 t.2.length e2] (fun k=>¬I' k∧some k≠va2.ownBlock) _ rfl rfl (push_M2 SW2.out HR2.out.1 HR2.out.2) (fun _ hk=>hk) (fun k hk=>⟨fun hi=>Nat.lt_irrefl _ (Nat.lt_of_lt_of_le (SW2.out.lt k hi) hk),fun e=>Nat.lt_irrefl _ (Nat.lt_of_lt_of_le (Kd.R_lt SW2.out.ahead k e.symm) hk)⟩) SW2.out.after (Below.refl _ _) SW2.out.st.below.size hlen2 ?_;intro vb2 w3 hr3 hb3 hg3 hat3)
       have SW3:=hid_ (SW2.out.push_after HI.out hr3 hb3 hg3 hat3)
       have hinv:=inv_step H8.out SW3.out hlt hgt HDP.out HRR.out
       clear z0 z1 hr3 hb3 hg3 hat3 hlen2
       go_roundw
       case rel=>exact ⟨i+1,I',cZ2 into x i,ahead++[s],after++[t],by go_num,hinv⟩
       case measure=>simp [intOf];omega
  ·
   have hie:i=g.C.length:=by have:=H.out.le;omega
   have hres:=H.out.res
   rw [show g.C.length - i=0 by omega,refL] at hres
   have HRES:=hid_ hres
   have hge:¬(i:Int)<(g.C.length:Int):=by omega
   clear hres hie hlt
   go_upto_region 37 with (fail)
   refine walk_r37 (by kernel_rfl) H.out.sw.fx ?_
   intro _ _
   dsimp only
   go_step
   go_step
   (try go_step)
   refine bodyPost_ret (results31 _ _ (w.heap.size+1) 0 0 u6 ?_ ?_ (setRow_heap _ _ _ _ _ _ H.out.sw.fx)) ?_ ?_
   · kernel_rfl
   · kernel_rfl
   · kernel_rfl
   ·
    rw [HRES.out]
    exact ⟨below_setRow H.out.sw.st.below (by omega) _,u6,rfl,hZW H.out.sw.ahead H.out.sw.fx⟩
theorem gZP (W:World) (a b:Obj):((W.alloc a).alloc b).heap[W.heap.size]?=some a∧((W.alloc a).alloc b).heap[W.heap.size+1]?=some b∧Below W.heap.size W ((W.alloc a).alloc b):=aZ5 W a b
theorem dZ8 (w:World) (A0 A1 A2 A3 A4:Option Addr) (c0 c1 c2 c3 c4:Nat) (g:Pg) (hI:InPg w A0 A1 A2 A3 A4 c0 c1 c2 c3 c4 g) (f:Fits g) (hno:aZB g.T.length g.N.length g.S.length g.M.length g.C g.dep g.loc∨g.C.length=0) :
 Calls Try.prog 31 #[aZ6 A0 A1 A2 A3 A4 c0 c1 c2 c3 c4 g] w (dZc w (bZ1 g)):=by
 have l0:=f.T
 have l1:=f.N
 have l2:=f.S
 have l3:=f.M
 have l4:=f.C
 obtain ⟨p0,p1,p2⟩:=gZP w (.cells #[.slice A0 g.T.length c0,.slice A1 g.N.length c1,.slice A2 g.S.length c2,.slice A3 g.M.length c3,.slice A4 g.C.length c4,.int .i64 g.dep,.int .i64 g.loc] 28) (rdO 0 0)
 have hST:StL w ((w.alloc (.cells #[.slice A0 g.T.length c0,.slice A1 g.N.length c1,.slice A2 g.S.length c2,.slice A3 g.M.length c3,.slice A4 g.C.length c4,.int .i64 g.dep,.int .i64 g.loc] 28)).alloc (rdO 0 0)) w.heap.size A0 A1 A2 A3 A4 c0 c1 c2 c3 c4 g:=⟨p2,p0,hI.below p2⟩
 have HL:=hid_ (And.intro l0 (And.intro l1 (And.intro l2 (And.intro l3 l4))))
 clear p0 p2 hI f
 unfold aZ6
 go_enter Try.func31,Try.ntmps31
 go_upto_region 1 with (fail)
 generalize (w.alloc (.cells #[.slice A0 g.T.length c0,.slice A1 g.N.length c1,.slice A2 g.S.length c2,.slice A3 g.M.length c3,.slice A4 g.C.length c4,.int .i64 g.dep,.int .i64 g.loc] 28)).alloc (rdO 0 0)=W1 at hST p1 ⊢
 have HST:=hid_ hST
 have HF:=hid_ p1
 clear p1 hST
 obtain ⟨x0,x1,x2,x3,x4,x5,x6⟩:=aZm HST.out.box
 go_upto_region 2 with (fail)
 obtain ⟨bD,hbD⟩:∃ b:Bool,(b=true↔aZB g.T.length g.N.length g.S.length g.M.length g.C g.dep g.loc):=by
  by_cases h:aZB g.T.length g.N.length g.S.length g.M.length g.C g.dep g.loc
  · exact ⟨true,by simp [h]⟩
  · exact ⟨false,by simp [h]⟩
 unfold aZB at hbD
 have HBD:=hid_ hbD
 clear hbD
 go_cut [59] (fun s wx=>s=.bool bD∧wx=W1)
 case first =>
  by_cases h0:32768<g.C.length
  ·
   have d0:decide ((g.C.length:Int) > 32768)=true:=decide_eq_true (by omega)
   have hb:bD=true:=HBD.out.2 (.inl h0)
   clear h0 l0 l1 l2 l3 l4
   go_wp2_with (fail)
   go_meet
   exact ⟨by rw [hb],rfl⟩
  have d0:decide ((g.C.length:Int) > 32768)=false:=decide_eq_false (by omega)
  by_cases h1:g.dep<0
  ·
   have d1:decide (g.dep<0)=true:=decide_eq_true (by omega)
   have hb:bD=true:=HBD.out.2 (.inr (.inl h1))
   clear h0 h1 l0 l1 l2 l3 l4
   go_wp2_with (fail)
   go_meet
   exact ⟨by rw [hb],rfl⟩
  have d1:decide (g.dep<0)=false:=decide_eq_false (by omega)
  by_cases h2:128<g.dep
  ·
   have d2:decide (g.dep > 128)=true:=decide_eq_true (by omega)
   have hb:bD=true:=HBD.out.2 (.inr (.inr (.inl h2)))
   clear h0 h1 h2 l0 l1 l2 l3 l4
   go_wp2_with (fail)
   go_meet
   exact ⟨by rw [hb],rfl⟩
  have d2:decide (g.dep > 128)=false:=decide_eq_false (by omega)
  by_cases h3:g.loc<0
  ·
   have d3:decide (g.loc<0)=true:=decide_eq_true (by omega)
   have hb:bD=true:=HBD.out.2 (.inr (.inr (.inr (.inl h3))))
   clear h0 h1 h2 h3 l0 l1 l2 l3 l4
   go_wp2_with (fail)
   go_meet
   exact ⟨by rw [hb],rfl⟩
  have d3:decide (g.loc<0)=false:=decide_eq_false (by omega)
  by_cases h4:1024<g.loc
  ·
   have d4:decide (g.loc > 1024)=true:=decide_eq_true (by omega)
   have hb:bD=true:=HBD.out.2 (.inr (.inr (.inr (.inr (.inl h4)))))
   clear h0 h1 h2 h3 h4 l0 l1 l2 l3 l4
   go_wp2_with (fail)
   go_meet
   exact ⟨by rw [hb],rfl⟩
  have d4:decide (g.loc > 1024)=false:=decide_eq_false (by omega)
  have d5:decide ((g.T.length:Int)+(g.N.length:Int)+(g.S.length:Int)+(g.M.length:Int) > 4096)=bD:=by
   cases bD with
   | true =>
    have:=HBD.out.1 rfl
    exact decide_eq_true (by omega)
   | false =>
    refine decide_eq_false (fun h=>?_)
    have:=HBD.out.2 (.inr (.inr (.inr (.inr (.inr (by omega))))))
    cases this
  clear h0 h1 h2 h3 h4 l0 l1 l2 l3 l4
  go_wp2_with (fail)
  go_meet
  exact ⟨rfl,rfl⟩
 case rest =>
 obtain ⟨rfl,hwc⟩:=hcut
 rw [hwc]
 clear hwc wc
 cases bD with
 | true =>
  have hD:aZB g.T.length g.N.length g.S.length g.M.length g.C g.dep g.loc:=HBD.out.1 rfl
  go_wp2_with ((with_reducible refine aZD (t:=41) (p:=3) rfl ?_);refine wpList_store_row rfl 41 (.tmp 3) (.tmp 60) rfl (w.heap.size+1) (rdC 210 (-1)) rfl rfl 41 (rdC 0 0) HF.out (bZe 210 (-1)) (bZg 0 0 210 (-1)) (bZ5 210 (-1)) ?_)
  refine bodyPost_ret (results31 _ _ (w.heap.size+1) 210 (-1) (.slice none 0 0) ?_ ?_ (setRow_heap _ _ _ _ _ _ HF.out)) ?_ ?_
  · kernel_rfl
  · kernel_rfl
  · kernel_rfl
  · exact cZP HST.out.below (by omega) (by unfold bZ1 gZN;rw [if_pos hD])
 | false =>
  have hD:¬aZB g.T.length g.N.length g.S.length g.M.length g.C g.dep g.loc:=fun h=>by have:=HBD.out.2 h;cases this
  have h0:=hno.resolve_left hD
  have e0:((g.C.length:Int) == 0)=true:=by rw [beq_iff_eq];omega
  have H0:=hid_ h0
  clear h0 l0 l1 l2 l3 l4 hno
  go_wp2_with ((with_reducible refine aZD (t:=41) (p:=3) rfl ?_);refine wpList_store_row rfl 41 (.tmp 3) (.tmp 65) rfl (w.heap.size+1) (rdC 219 0) rfl rfl 41 (rdC 0 0) HF.out (bZe 219 0) (bZg 0 0 219 0) (bZ5 219 0) ?_)
  refine bodyPost_ret (results31 _ _ (w.heap.size+1) 219 0 (.slice none 0 0) ?_ ?_ (setRow_heap _ _ _ _ _ _ HF.out)) ?_ ?_
  · kernel_rfl
  · kernel_rfl
  · kernel_rfl
  · exact cZP HST.out.below (by omega) (by unfold bZ1 gZN;rw [if_neg hD,if_pos H0.out])
end Go.Proofs.Ytbnplhmmbnmagaa.D
