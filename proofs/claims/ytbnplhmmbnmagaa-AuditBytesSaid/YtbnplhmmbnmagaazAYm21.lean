/- Encode: its walk. -/
import Derived.Test.YtbnplhmmbnmagaazAYm20
import Derived.Test.YtbnplhmmbnmagaazAYm2
import Derived.Test.YtbnplhmmbnmagaazAYm4
import Derived.Test.YtbnplhmmbnmagaazAYm3
import Derived.Test.YtbnplhmmbnmagaazAYm5
import Derived.Test.YtbnplhmmbnmagaazAYm6
import Derived.Test.YtbnplhmmbnmagaazAYm7
import Derived.Test.YtbnplhmmbnmagaazAYm8
import Derived.Lib.SlBytesConst
import Derived.ArgAppend
set_option linter.unusedVariables false
set_option linter.unusedSimpArgs false
namespace Go.Proofs.Ytbnplhmmbnmagaa.D
open Go.RowKit Go.Proofs.YtbnplhmmbnmagaaW.PrintWords Go.Proofs.YtbnplhmmbnmagaaW.PrintLast Go.Proofs.YtbnplhmmbnmagaaW.PrintMore Go.Proofs.Ytbnplhmmbnmagaa.All
theorem own_ints {W:World} {base:Nat} {ok:Nat→Prop} {v:Value} {xs:List Int} (h:W.ownsRow base 5 1 v xs.length (xs.map (Value.int .u8))) (hok:∀ k,base≤k→ok k):(Kd.int .u8).R 5 W base ok v xs :=
  ⟨fun k hk=>hok k (bZv h k hk),xs.map (Value.int .u8),h,Kd.reps_scalar (enc:=Value.int .u8) xs⟩
theorem bZC {α:Type} (cmp:α→α→Int) (ok:α→Bool):∀ (p:Option α) (l:List α),aZU cmp ok p l=true→∀ x∈l,ok x=true
  | _,[],_,x,hx=>by cases hx
  | none,y :: l,h,x,hx=>by
    simp only [aZU,Bool.and_eq_true] at h
    rcases List.mem_cons.1 hx with rfl|hx
    · exact h.1
    · exact bZC cmp ok _ l h.2 x hx
  | some z,y :: l,h,x,hx=>by
    simp only [aZU,Bool.and_eq_true] at h
    rcases List.mem_cons.1 hx with rfl|hx
    · exact h.1.1
    · exact bZC cmp ok _ l h.2 x hx
theorem okSS_all {l:List ByteArray} (h:okSS l=true):l.length≤1000∧∀ s∈l,s.size≤127:=by
  unfold okSS at h
  simp only [Bool.and_eq_true,decide_eq_true_eq] at h
  refine ⟨h.1.2,fun s hs=>?_⟩
  have:=bZC _ _ _ _ h.2 s hs
  simpa [okS] using this
theorem okII_all {l:List Int} (h:okII l=true):l.length≤1000∧∀ n∈l,-1000000000000000000≤n∧n≤1000000000000000000:=by
  unfold okII at h
  simp only [Bool.and_eq_true,decide_eq_true_eq] at h
  refine ⟨h.1.2,fun s hs=>?_⟩
  have:=bZC _ _ _ _ h.2 s hs
  simpa [okI] using this
theorem fZw {b:Bool} {n:Int} (h:opOK b n=true):0≤n∧n≤65535:=by
 unfold opOK at h
 split at h
 · simpa using h
 ·
  have:n=0:=by simpa using h
  omega
structure Form (g:Pg):Prop where
  len:g.T.length+g.N.length+g.S.length+g.M.length≤4096
  clen:g.C.length≤32768
  dep:0≤g.dep∧g.dep≤128
  loc:0≤g.loc∧g.loc≤1024
  T:∀ s∈g.T,s.size≤127
  N:∀ n∈g.N,-1000000000000000000≤n∧n≤1000000000000000000
  S:∀ y∈g.S,y.length≤1000∧∀ s∈y,s.size≤127
  M:∀ y∈g.M,y.length≤1000∧∀ n∈y,-1000000000000000000≤n∧n≤1000000000000000000
  C:∀ x∈g.C,(0≤x.f1∧x.f1≤65535)∧(0≤x.f2∧x.f2≤65535)∧(0≤x.f3∧x.f3≤65535)
theorem eZA {g:Pg} (h:cZg g=true):Form g:=by
 unfold cZg at h
 simp only [Bool.and_eq_true,decide_eq_true_eq] at h
 obtain ⟨h1,h2,h3,h4,h5,h6,h7,h8⟩:=h
 refine ⟨h1,h2,⟨h3.1,h3.2.1⟩,⟨h3.2.2.1,h3.2.2.2⟩,fun s hs=>?_,fun n hn=>?_,fun y hy=>okSS_all (bZC _ _ _ _ h6 y hy),fun y hy=>okII_all (bZC _ _ _ _ h7 y hy),fun x hx=>?_⟩
 · simpa [okS] using bZC _ _ _ _ h4 s hs
 · simpa [okI] using bZC _ _ _ _ h5 n hn
 ·
  have:=List.all_eq_true.1 h8 x hx
  unfold cZ2 at this
  simp only [Bool.and_eq_true] at this
  exact ⟨fZw this.2.1,fZw this.2.2.1,fZw this.2.2.2⟩
def At (bs:List Int) (p:Int) (l:List Int):Prop:=∃ pre post,bs=pre++l++post∧(pre.length:Int)=p
theorem At.head {bs:List Int} {p a:Int} {l:List Int} (h:At bs p (a :: l)):bs.getD p.toNat 0=a∧p<bs.length∧0≤p∧At bs (p+1) l:=by
  obtain ⟨pre,post,rfl,rfl⟩:=h
  refine ⟨by simp,by simp;omega,by omega,pre++[a],post,by simp,by simp⟩
theorem At.cons {bs:List Int} {p:Int} {l:List Int} (h0:0≤p) (h1:p<bs.length) (h:At bs (p+1) l):At bs p (bs.getD p.toNat 0 :: l):=by
  obtain ⟨pre,post,e,hp⟩:=h
  have hne:pre≠[]:=by rintro rfl;simp at hp;omega
  have hd:pre=pre.dropLast++[pre.getLast hne]:=(List.dropLast_concat_getLast hne).symm
  have hl:(pre.dropLast.length:Int)=p:=by
    have:pre.dropLast.length=pre.length - 1:=List.length_dropLast
    have:0<pre.length:=List.length_pos_iff.2 hne
    omega
  refine ⟨pre.dropLast,post,?_,hl⟩
  have hg:bs.getD p.toNat 0=pre.getLast hne:=by
    have e2:bs=pre.dropLast++(pre.getLast hne :: (l++post)):=by rw [e];conv=>lhs;rw [hd];simp
    rw [e2,←hl,Int.toNat_natCast]
    simp
  rw [hg,e]
  conv=>lhs;rw [hd]
  simp
theorem At.nil {bs:List Int} {p:Int} (h0:0≤p) (h1:p≤bs.length):At bs p []:=⟨bs.take p.toNat,bs.drop p.toNat,by simp,by rw [List.length_take];omega⟩
theorem At.split {bs:List Int} {p:Int} {l m:List Int} (h:At bs p (l++m)):At bs p l∧At bs (p+l.length) m:=by
  obtain ⟨pre,post,rfl,rfl⟩:=h
  exact ⟨⟨pre,m++post,by simp,rfl⟩,⟨pre++l,post,by simp,by simp⟩⟩
theorem At.join {bs:List Int} {p:Int} {l m:List Int} (h:At bs p l) (k:At bs (p+l.length) m):At bs p (l++m):=by
  obtain ⟨pre,post,rfl,rfl⟩:=h
  obtain ⟨pre2,post2,e,hp⟩:=k
  have e1:pre2=pre++l:=by
    have:=congrArg (List.take (pre++l).length) e
    rw [List.take_left,List.append_assoc pre2,←List.append_assoc] at this
    have hlen:pre2.length=(pre++l).length:=by rw [List.length_append];omega
    rw [←hlen,List.append_assoc,List.take_left] at this
    exact this.symm
  subst e1
  exact ⟨pre,post2,by simpa using e,rfl⟩
theorem At.le {bs:List Int} {p:Int} {l:List Int} (h:At bs p l):0≤p∧p+l.length≤bs.length:=by
  obtain ⟨pre,post,rfl,rfl⟩:=h
  simp
  omega
theorem gZc (bs:List Int) (frm lo hi:Int):∀ (F i:Nat) (p m n:Int),i+F=9→0≤n→n<128 ^ F→(n=0→i=0)→At bs p (cntF F n)→lo≤m+n*128 ^ i→m+n*128 ^ i≤hi→bZK bs frm lo hi F i p m=.ok (m+n*128 ^ i,p+(cntF F n).length)
 | 0,i,p,m,n,hi9,h0,h1,hz,hA,hlo,hhi=>by
  have:n<1:=h1
  have:=hz (by omega)
  omega
 | F+1,i,p,m,n,hi9,h0,h1,hz,hA,hlo,hhi=>by
  by_cases hc:128≤n
  ·
   have ec:cntF (F+1) n=(n % 128+128) :: cntF F (n / 128):=by rw [cntF,if_pos hc]
   rw [ec] at hA ⊢
   obtain ⟨g1,g2,g3,g4⟩:=hA.head
   have hpow:n / 128<128 ^ F:=by
    rw [Int.pow_succ] at h1
    exact Int.ediv_lt_of_lt_mul (by omega) h1
   have hi8:¬i=8:=by
    rintro rfl
    have:F=0:=by omega
    subst this
    have:n / 128<1:=hpow
    omega
   have em:m+(n % 128+128) % 128*128 ^ i=m+n % 128*128 ^ i:=by
    congr 2
    omega
   rw [aZN bs frm lo hi F i p m _ _ g1 em,if_neg (by omega),if_neg (by omega),if_pos (by omega)]
   have esum:m+n % 128*128 ^ i+n / 128*128 ^ (i+1)=m+n*128 ^ i:=by
    have hn:n=n % 128+n / 128*128:=by omega
    rw [Int.pow_succ]
    conv=>rhs;rw [hn]
    rw [Int.add_mul,Int.mul_assoc,Int.mul_comm 128,Int.add_assoc]
   rw [gZc bs frm lo hi F (i+1) (p+1) _ (n / 128) (by omega) (by omega) hpow (by omega) g4 (by rw [esum];exact hlo) (by rw [esum];exact hhi),esum]
   congr 2
   simp only [List.length_cons]
   omega
  ·
   have ec:cntF (F+1) n=[n]:=by
    rw [cntF,if_neg hc]
    congr 1
    omega
   rw [ec] at hA ⊢
   obtain ⟨g1,g2,g3,g4⟩:=hA.head
   have em:m+n % 128*128 ^ i=m+n*128 ^ i:=by
    congr 2
    omega
   rw [aZN bs frm lo hi F i p m _ _ g1 em,if_neg (by omega),if_neg (by omega),if_neg (by omega),if_neg (fun h=>by have:=hz h.1;omega),if_neg (by omega)]
   rfl
theorem bZ0 {bs:List Int} {p lo hi n:Int} (h0:0≤n) (h1:n≤2000000000000000000) (hlo:lo≤n) (hhi:n≤hi) (hA:At bs p (aZI n)):aZm bs p lo hi=.ok (n,p+(aZI n).length):=by
  have h128:(128:Int) ^ 9=9223372036854775808:=by decide
  have:=gZc bs p lo hi 9 0 p 0 n rfl h0 (by omega) (fun _=>rfl) hA (by simpa using hlo) (by simpa using hhi)
  unfold aZm aZI
  rw [this]
  simp
theorem gZe (bs:List Int) (hb:∀ x∈bs,0≤x∧x≤255) (frm lo hi:Int):∀ (F i:Nat) (p m x q:Int),i+F=9→0≤p→bZK bs frm lo hi F i p m=.ok (x,q)→∃ n,0≤n∧n<128 ^ F∧(n=0→i=0)∧x=m+n*128 ^ i∧At bs p (cntF F n)∧q=p+(cntF F n).length
 | 0,i,p,m,x,q,_,_,h=>by simp [bZK] at h
 | F+1,i,p,m,x,q,hi9,hp,h=>by
  rw [aZN bs frm lo hi F i p m _ _ rfl rfl] at h
  by_cases hend:(bs.length:Int)≤p
  · rw [if_pos hend] at h;simp at h
  rw [if_neg hend] at h
  have hc:=hb (bs.getD p.toNat 0) (by rw [List.getD_eq_getElem?_getD,List.getElem?_eq_getElem (by omega)];simp)
  by_cases h8:i=8∧128≤bs.getD p.toNat 0
  · rw [if_pos h8] at h;simp at h
  rw [if_neg h8] at h
  by_cases hge:128≤bs.getD p.toNat 0
  ·
   rw [if_pos hge] at h
   obtain ⟨n,n0,n1,n2,n3,n4,n5⟩:=gZe bs hb frm lo hi F (i+1) (p+1) _ x q (by omega) (by omega) h
   have hn0:n≠0:=fun e=>by have:=n2 e;omega
   have hdiv:(bs.getD p.toNat 0 % 128+n*128) / 128=n:=by omega
   have hmod:(bs.getD p.toNat 0 % 128+n*128) % 128+128=bs.getD p.toNat 0:=by omega
   have ec:cntF (F+1) (bs.getD p.toNat 0 % 128+n*128)=bs.getD p.toNat 0 :: cntF F n:=by rw [cntF,if_pos (by omega),hdiv,hmod]
   refine ⟨bs.getD p.toNat 0 % 128+n*128,by omega,?_,by omega,?_,?_,?_⟩
   ·
    rw [Int.pow_succ]
    omega
   · rw [n3,Int.pow_succ,Int.add_mul,Int.mul_assoc n 128,Int.mul_comm 128,Int.add_assoc]
   ·
    rw [ec]
    exact n4.cons hp (by omega)
   ·
    rw [ec,n5]
    simp only [List.length_cons]
    omega
  rw [if_neg hge] at h
  by_cases hz:bs.getD p.toNat 0=0∧0<i
  · rw [if_pos hz] at h;simp at h
  rw [if_neg hz] at h
  split at h
  · simp at h
  simp only [Except.ok.injEq,Prod.mk.injEq] at h
  have ec:cntF (F+1) (bs.getD p.toNat 0)=[bs.getD p.toNat 0]:=by
   rw [cntF,if_neg hge]
   congr 1
   omega
  refine ⟨bs.getD p.toNat 0,hc.1,?_,by omega,?_,?_,?_⟩
  ·
   have:(0:Int)<128 ^ F:=Int.pow_pos (by omega)
   rw [Int.pow_succ]
   omega
  ·
   rw [←h.1]
   congr 2
   omega
  ·
   rw [ec]
   exact (At.nil (by omega) (by omega)).cons hp (by omega)
  ·
   rw [ec,←h.2]
   rfl
theorem cZi {bs:List Int} (hb:∀ x∈bs,0≤x∧x≤255) {p lo hi x q:Int} (hp:0≤p) (h:aZm bs p lo hi=.ok (x,q)):0≤x∧lo≤x∧x≤hi∧At bs p (aZI x)∧q=p+(aZI x).length:=by
  obtain ⟨n,n0,n1,n2,n3,n4,n5⟩:=gZe bs hb p lo hi 9 0 p 0 x q rfl hp h
  have hx:x=n:=by rw [n3];simp
  subst hx
  have:=aZt h
  exact ⟨n0,this.1,this.2.1,n4,n5⟩
def Ext {α:Type} (f:List Int→Int→Except (Int × Int) (α × Int)):Prop:=∀ bs more p,0≤p→f bs p=.error (201,(bs.length:Int))∨f (bs++more) p=f bs p
theorem fZc (bs more:List Int) (frm lo hi:Int):∀ (F i:Nat) (p m:Int),0≤p→bZK bs frm lo hi F i p m=.error (201,(bs.length:Int))∨bZK (bs++more) frm lo hi F i p m=bZK bs frm lo hi F i p m
 | 0,i,p,m,_=>.inr rfl
 | F+1,i,p,m,hp=>by
  by_cases hend:(bs.length:Int)≤p
  ·
   left
   rw [aZN bs frm lo hi F i p m _ _ rfl rfl,if_pos hend]
  ·
   have hg:(bs++more).getD p.toNat 0=bs.getD p.toNat 0:=by
    rw [List.getD_eq_getElem?_getD,List.getD_eq_getElem?_getD,List.getElem?_append_left (by omega)]
   have hend2:¬((bs++more).length:Int)≤p:=by rw [List.length_append];omega
   have e1:=aZN (bs++more) frm lo hi F i p m _ _ hg rfl
   have e2:=aZN bs frm lo hi F i p m _ _ rfl rfl
   rw [if_neg hend2] at e1
   rw [if_neg hend] at e2
   by_cases h8:i=8∧128≤bs.getD p.toNat 0
   ·
    rw [if_pos h8] at e1 e2
    exact .inr (e1.trans e2.symm)
   rw [if_neg h8] at e1 e2
   by_cases hge:128≤bs.getD p.toNat 0
   ·
    rw [if_pos hge] at e1 e2
    rw [e1,e2]
    exact fZc bs more frm lo hi F (i+1) (p+1) _ (by omega)
   rw [if_neg hge] at e1 e2
   exact .inr (e1.trans e2.symm)
theorem countF_ext (lo hi:Int):Ext (fun bs p=>aZm bs p lo hi):=fun bs more p hp=>fZc bs more p lo hi 9 0 p 0 hp
abbrev bZ3 (bs:List Int):Prop:=∀ x∈bs,0≤x∧x≤255
structure Code1 {α:Type} (f:List Int→Int→Except (Int × Int) (α × Int)) (enc:α→List Int) (ok:α→Prop):Prop where
  rt:∀ bs p x,ok x→At bs p (enc x)→f bs p=.ok (x,p+(enc x).length)
  of:∀ bs p x q,bZ3 bs→0≤p→f bs p=.ok (x,q)→ok x∧At bs p (enc x)∧q=p+(enc x).length
  ext:Ext f
theorem eZh (lo hi:Int) (bs more:List Int) (p:Int) (hp:0≤p):aZm bs p lo hi=.error (201,(bs.length:Int))∨aZm (bs++more) p lo hi=aZm bs p lo hi:=countF_ext lo hi bs more p hp
theorem bytes_str (l:List Int) (h:∀ x∈l,0≤x∧x≤255):bytesOf (strOfNums l)=l:=by
  unfold bytesOf strOfNums
  simp only [List.map_map]
  conv=>rhs;rw [←List.map_id l]
  refine List.map_congr_left fun a ha=>?_
  have:=h a ha
  simp
  omega
theorem str_bytes (s:ByteArray):strOfNums (bytesOf s)=s:=by
  unfold bytesOf strOfNums
  rw [List.map_map]
  have:(s.data.toList.map ((fun n:Int=>UInt8.ofNat n.toNat) ∘ fun b:UInt8=>(b.toNat:Int)))=s.data.toList:=by
    conv=>rhs;rw [←List.map_id s.data.toList]
    refine List.map_congr_left fun a _=>?_
    simp
  rw [this]
theorem mid_at {bs l:List Int} {q:Int} (h:At bs q l):(bs.take (q+l.length).toNat).drop q.toNat=l:=by
  obtain ⟨pre,post,rfl,rfl⟩:=h
  have e1:((pre.length:Int)+l.length).toNat=(pre++l).length:=by rw [List.length_append];omega
  rw [e1,List.take_left,Int.toNat_natCast,List.drop_left]
theorem at_mid {bs:List Int} {q n:Int} (h0:0≤q) (hn:0≤n) (h1:q+n≤bs.length):At bs q ((bs.take (q+n).toNat).drop q.toNat)∧((bs.take (q+n).toNat).drop q.toNat).length=n.toNat:=by
  refine ⟨⟨bs.take q.toNat,bs.drop (q+n).toNat,?_,by rw [List.length_take];omega⟩,by rw [List.length_drop,List.length_take];omega⟩
  have e:bs.take q.toNat=(bs.take (q+n).toNat).take q.toNat:=by rw [List.take_take];congr 1;omega
  rw [e,List.take_append_drop,List.take_append_drop]
theorem text_code:Code1 bZi aZ0 (fun s=>s.size≤127):=by
 refine ⟨fun bs p s hs hA=>?_,fun bs p s q hb hp h=>?_,fun bs more p hp=>?_⟩
 ·
  obtain ⟨h1,h2⟩:=hA.split
  have hl:=h2.le
  rw [bZt] at hl
  unfold bZi
  rw [bZ0 (by omega) (by omega) (by omega) (by omega) h1]
  dsimp only
  have hm:=mid_at h2
  rw [bZt] at hm
  rw [if_neg (by omega),hm,str_bytes]
  unfold aZ0
  rw [List.length_append,bZt]
  congr 2
  omega
 ·
  unfold bZi at h
  cases hc:aZm bs p 0 127 with
  | error f=>rw [hc] at h;simp at h
  | ok nq =>
   obtain ⟨n,q1⟩:=nq
   rw [hc] at h
   dsimp only at h
   obtain ⟨c0,c1,c2,c3,c4⟩:=cZi hb hp hc
   split at h
   · simp at h
   ·
    simp only [Except.ok.injEq,Prod.mk.injEq] at h
    obtain ⟨rfl,rfl⟩:=h
    obtain ⟨m1,m2⟩:=at_mid (bs:=bs) (q:=q1) (n:=n) (by omega) c0 (by omega)
    have hbb:bytesOf (strOfNums ((bs.take (q1+n).toNat).drop q1.toNat))=(bs.take (q1+n).toNat).drop q1.toNat:=bytes_str _ (fun x hx=>hb x (List.mem_of_mem_take (List.mem_of_mem_drop hx)))
    have hsz:(strOfNums ((bs.take (q1+n).toNat).drop q1.toNat)).size=n.toNat:=by rw [←bZt,hbb,m2]
    have en:((strOfNums ((bs.take (q1+n).toNat).drop q1.toNat)).size:Int)=n:=by omega
    unfold aZ0
    rw [hbb,en]
    refine ⟨by omega,c3.join (by rw [←c4];exact m1),?_⟩
    rw [List.length_append,m2]
    omega
 ·
  unfold bZi
  rcases eZh 0 127 bs more p hp with h|h
  · left;rw [h]
  ·
   rw [h]
   cases hc:aZm bs p 0 127 with
   | error f=>exact .inr rfl
   | ok nq =>
    obtain ⟨n,q1⟩:=nq
    have hq:=aZt hc
    dsimp only
    by_cases hcut:bs.length - q1<n
    · left;rw [if_pos hcut]
    ·
     right
     rw [if_neg hcut,if_neg (by rw [List.length_append];omega)]
     congr 4
     rw [List.take_append_of_le_length (by omega)]
theorem num_code:Code1 numF bZM (fun n=>-1000000000000000000≤n∧n≤1000000000000000000):=by
 refine ⟨fun bs p n hn hA=>?_,fun bs p n q hb hp h=>?_,fun bs more p hp=>?_⟩
 ·
  unfold numF
  unfold bZM at hA ⊢
  by_cases h:n<0
  ·
   rw [if_pos h] at hA ⊢
   rw [bZ0 (by omega) (by omega) (by omega) (by omega) hA]
   dsimp only
   rw [if_pos (by omega)]
   congr 2
   omega
  ·
   rw [if_neg h] at hA ⊢
   rw [bZ0 (by omega) (by omega) (by omega) (by omega) hA]
   dsimp only
   rw [if_neg (by omega)]
   congr 2
   omega
 ·
  unfold numF at h
  cases hc:aZm bs p 0 2000000000000000000 with
  | error f=>rw [hc] at h;simp at h
  | ok nq =>
   obtain ⟨m,q1⟩:=nq
   rw [hc] at h
   obtain ⟨c0,c1,c2,c3,c4⟩:=cZi hb hp hc
   simp only [Except.ok.injEq,Prod.mk.injEq] at h
   obtain ⟨rfl,rfl⟩:=h
   unfold bZM
   by_cases ho:m % 2=1
   ·
    rw [if_pos ho,if_pos (by omega),show -2*(-(m / 2) - 1) - 1=m by omega]
    exact ⟨by omega,c3,c4⟩
   ·
    rw [if_neg ho,if_neg (by omega),show 2*(m / 2)=m by omega]
    exact ⟨by omega,c3,c4⟩
 ·
  unfold numF
  rcases eZh 0 2000000000000000000 bs more p hp with h|h
  · left;rw [h]
  · right;rw [h]
section
variable {α:Type} {z:α} {one:List Int→Int→Except (Int × Int) (α × Int)} {enc:α→List Int} {okB:α→Bool} {cmp:α→α→Int}
theorem last_test (acc:List α) (x:α) (l:List α) (h:aZU cmp okB acc.getLast? (x :: l)=true):okB x=true∧¬(0<acc.length∧0≤cmp (acc.getD (acc.length - 1) z) x)∧aZU cmp okB (some x) l=true:=by
 rcases List.eq_nil_or_concat acc with rfl | ⟨ys,y,rfl⟩
 ·
  simp only [List.getLast?_nil,aZU,Bool.and_eq_true] at h
  exact ⟨h.1,fun hh=>by simp at hh,h.2⟩
 ·
  simp only [List.getLast?_concat,List.concat_eq_append,List.getLast?_append,List.getLast?_singleton,Option.some_or,aZU,Bool.and_eq_true,Bool.not_eq_true',decide_eq_false_iff_not] at h
  refine ⟨h.1.1,fun hh=>h.1.2 ?_,h.2⟩
  have:=hh.2
  simpa using this
theorem test_last (acc:List α) (x:α) (l:List α) (h1:okB x=true) (h2:¬(0<acc.length∧0≤cmp (acc.getD (acc.length - 1) z) x)) (h3:aZU cmp okB (some x) l=true):aZU cmp okB acc.getLast? (x :: l)=true:=by
 rcases List.eq_nil_or_concat acc with rfl | ⟨ys,y,rfl⟩
 ·
  simp only [List.getLast?_nil,aZU,Bool.and_eq_true]
  exact ⟨h1,h3⟩
 ·
  have h4:¬ 0≤cmp y x:=fun h=>h2 ⟨by simp,by simpa using h⟩
  simp only [List.getLast?_concat,List.concat_eq_append,List.getLast?_append,List.getLast?_singleton,Option.some_or,aZU,Bool.and_eq_true,Bool.not_eq_true',decide_eq_false_iff_not]
  exact ⟨⟨h1,h4⟩,h3⟩
theorem listL_rt (H:Code1 one enc (fun x=>okB x=true)) (bs:List Int):∀ (l:List α) (q:Int) (acc:List α),aZU cmp okB acc.getLast? l=true→At bs q ((l.map enc).flatten)→aZr z (one bs) cmp l.length q acc=.ok (acc++l,q+((l.map enc).flatten).length)
  | [],q,acc,_,_=>by simp [aZr]
  | x :: l,q,acc,hr,hA=>by
    obtain ⟨h1,h2,h3⟩:=last_test (z:=z) acc x l hr
    rw [List.map_cons,List.flatten_cons] at hA ⊢
    obtain ⟨a1,a2⟩:=hA.split
    rw [List.length_cons,aZr,H.rt bs q x h1 a1]
    dsimp only
    rw [if_neg h2,listL_rt H bs l _ (acc++[x]) (by rw [List.getLast?_append];exact h3) a2]
    congr 2
    · simp
    · rw [List.length_append]
      omega
theorem listL_of (H:Code1 one enc (fun x=>okB x=true)) (hah:∀ bs,dZk bs (one bs)) (bs:List Int) (hb:bZ3 bs):∀ (d:Nat) (q:Int) (acc r:List α) (q2:Int),0≤q→q≤bs.length→aZr z (one bs) cmp d q acc=.ok (r,q2) →
    ∃ l,r=acc++l∧l.length=d∧aZU cmp okB acc.getLast? l=true∧At bs q ((l.map enc).flatten)∧q2=q+((l.map enc).flatten).length
  | 0,q,acc,r,q2,h0,hl,h=>by
    rw [aZr] at h
    simp only [Except.ok.injEq,Prod.mk.injEq] at h
    refine ⟨[],by simp [h.1],rfl,?_,At.nil h0 hl,by simp [h.2]⟩
    cases acc.getLast? <;> rfl
  | d+1,q,acc,r,q2,h0,hl,h=>by
    rw [aZr] at h
    cases ho:one bs q with
    | error f=>rw [ho] at h;simp at h
    | ok xq =>
      obtain ⟨x,q1⟩:=xq
      rw [ho] at h
      dsimp only at h
      obtain ⟨o1,o2,o3⟩:=H.of bs q x q1 hb h0 ho
      have ha:=hah bs q x q1 h0 ho
      split at h
      · simp at h
      · rename_i hn
        obtain ⟨l,l1,l2,l3,l4,l5⟩:=listL_of H hah bs hb d q1 (acc++[x]) r q2 (by omega) ha.2 h
        rw [List.getLast?_append] at l3
        refine ⟨x :: l,by simp [l1],by simp [l2],test_last (z:=z) acc x l o1 hn l3,?_,?_⟩
        · rw [List.map_cons,List.flatten_cons]
          exact o2.join (by rw [←o3];exact l4)
        · rw [List.map_cons,List.flatten_cons,List.length_append,l5]
          omega
theorem fZY (H:Code1 one enc (fun x=>okB x=true)) (hah:∀ bs,dZk bs (one bs)) (bs more:List Int):∀ (d:Nat) (q:Int) (acc:List α),0≤q→aZr z (one bs) cmp d q acc=.error (201,(bs.length:Int))∨aZr z (one (bs++more)) cmp d q acc=aZr z (one bs) cmp d q acc
  | 0,q,acc,_=>.inr rfl
  | d+1,q,acc,h0=>by
    rw [aZr,aZr]
    rcases H.ext bs more q h0 with h|h
    · left;rw [h]
    · rw [h]
      cases ho:one bs q with
      | error f=>exact .inr rfl
      | ok xq =>
        obtain ⟨x,q1⟩:=xq
        have ha:=hah bs q x q1 h0 ho
        dsimp only
        split
        · exact .inr rfl
        · exact fZY H hah bs more d q1 _ (by omega)
theorem cZC (H:Code1 one enc (fun x=>okB x=true)) (hah:∀ bs,dZk bs (one bs)) (lo hi:Int) (hlo:0≤lo) (hhi:hi≤2000000000000000000) :
 Code1 (fun bs p=>aZO z (one bs) cmp bs p lo hi) (aZo enc) (fun l=>lo≤l.length∧(l.length:Int)≤hi∧aZU cmp okB none l=true):=by
 refine ⟨fun bs p l hl hA=>?_,fun bs p l q hb hp h=>?_,fun bs more p hp=>?_⟩
 ·
  obtain ⟨a1,a2⟩:=hA.split
  show aZO z (one bs) cmp bs p lo hi=_
  unfold aZO
  rw [bZ0 (by omega) (by omega) hl.1 hl.2.1 a1]
  dsimp only
  rw [Int.toNat_natCast,listL_rt H bs l _ [] hl.2.2 a2]
  unfold aZo
  rw [List.length_append,List.nil_append]
  congr 2
  omega
 ·
  change aZO z (one bs) cmp bs p lo hi=_ at h
  unfold aZO at h
  cases hc:aZm bs p lo hi with
  | error f=>rw [hc] at h;simp at h
  | ok nq =>
   obtain ⟨n,q1⟩:=nq
   rw [hc] at h
   dsimp only at h
   obtain ⟨c0,c1,c2,c3,c4⟩:=cZi hb hp hc
   have hq:=aZt hc
   obtain ⟨l2,e1,e2,e3,e4,e5⟩:=listL_of H hah bs hb n.toNat q1 [] l q (by omega) hq.2.2.2 h
   rw [List.nil_append] at e1
   subst e1
   have en:(l.length:Int)=n:=by omega
   refine ⟨⟨by omega,by omega,e3⟩,?_,?_⟩
   ·
    unfold aZo
    rw [en]
    exact c3.join (by rw [←c4];exact e4)
   ·
    unfold aZo
    rw [List.length_append,en,e5,c4]
    omega
 ·
  show aZO z (one bs) cmp bs p lo hi=_∨aZO z (one (bs++more)) cmp (bs++more) p lo hi=aZO z (one bs) cmp bs p lo hi
  unfold aZO
  rcases eZh lo hi bs more p hp with h|h
  · left;rw [h]
  ·
   rw [h]
   cases hc:aZm bs p lo hi with
   | error f=>exact .inr rfl
   | ok nq =>
    obtain ⟨n,q1⟩:=nq
    have hq:=aZt hc
    exact fZY H hah bs more n.toNat q1 [] (by omega)
end
theorem Code1.imp {α:Type} {f:List Int→Int→Except (Int × Int) (α × Int)} {enc:α→List Int} {ok ok':α→Prop} (H:Code1 f enc ok) (h:∀ x,ok x↔ok' x):Code1 f enc ok' :=
  ⟨fun bs p x hx=>H.rt bs p x ((h x).2 hx),fun bs p x q hb hp hf=>⟨(h x).1 (H.of bs p x q hb hp hf).1,(H.of bs p x q hb hp hf).2⟩,H.ext⟩
theorem text_codeB:Code1 bZi aZ0 (fun s=>okS s=true):=text_code.imp (fun s=>by simp [okS])
theorem num_codeB:Code1 numF bZM (fun s=>okI s=true):=num_code.imp (fun s=>by simp [okI])
theorem texts_codeB : Code1 bZf (aZo aZ0) (fun l => okSS l = true) := (cZC (z := ByteArray.empty) (cmp := cmpS) text_codeB bZb 1 1000 (by omega) (by omega)).imp (fun l => by
  unfold okSS
  simp only [Bool.and_eq_true,decide_eq_true_eq]
  exact ⟨fun h=>⟨⟨by omega,by omega⟩,h.2.2⟩,fun h=>⟨by omega,by omega,h.2⟩⟩)
theorem nums_codeB : Code1 bZr (aZo bZM) (fun l => okII l = true) := (cZC (z := (0 : Int)) (cmp := cmpI) num_codeB bZj 1 1000 (by omega) (by omega)).imp (fun l => by
  unfold okII
  simp only [Bool.and_eq_true,decide_eq_true_eq]
  exact ⟨fun h=>⟨⟨by omega,by omega⟩,h.2.2⟩,fun h=>⟨by omega,by omega,h.2⟩⟩)
theorem dZ1 (bs:List Int):dZk bs (bZf bs):=bZS _ bs _ _ (bZb bs) _ _ (by omega)
theorem eZr (bs:List Int):dZk bs (bZr bs):=bZS _ bs _ _ (bZj bs) _ _ (by omega)
theorem getN_x (bs more:List Int) (b:Bool) (d q:Int) (hq:0≤q):getN bs b d q=.error (201,(bs.length:Int))∨getN (bs++more) b d q=getN bs b d q:=by
 unfold getN
 by_cases hb:b=true
 · rw [if_pos hb,if_pos hb];exact eZh 0 65535 bs more q hq
 · rw [if_neg hb,if_neg hb];exact .inr rfl
def optE (b:Bool) (n:Int):List Int:=if b=true then aZI n else []
theorem getN_rt {bs:List Int} {b:Bool} {q n:Int} (h:opOK b n=true) (hA:At bs q (optE b n)):getN bs b 0 q=.ok (n,q+(optE b n).length):=by
 unfold getN
 unfold opOK at h
 unfold optE at hA ⊢
 by_cases hb:b=true
 ·
  rw [if_pos hb] at h hA ⊢
  have h2:0≤n∧n≤65535:=by simpa using h
  rw [bZ0 h2.1 (by omega) h2.1 h2.2 hA,if_pos hb]
 ·
  rw [if_neg hb] at h hA ⊢
  have h2:n=0:=by simpa using h
  subst h2
  rw [if_neg hb]
  simp
theorem getN_of {bs:List Int} (hbs:bZ3 bs) {b:Bool} {q n q2:Int} (h0:0≤q) (h1:q≤bs.length) (h:getN bs b 0 q=.ok (n,q2)):opOK b n=true∧At bs q (optE b n)∧q2=q+(optE b n).length∧q≤q2∧q2≤bs.length:=by
 unfold getN at h
 unfold opOK optE
 by_cases hb:b=true
 ·
  rw [if_pos hb] at h ⊢
  obtain ⟨c0,c1,c2,c3,c4⟩:=cZi hbs h0 h
  have hq:=aZt h
  rw [if_pos hb]
  exact ⟨by simpa using ⟨c0,c2⟩,c3,c4,by omega,by omega⟩
 ·
  rw [if_neg hb] at h ⊢
  simp only [Except.ok.injEq,Prod.mk.injEq] at h
  obtain ⟨rfl,rfl⟩:=h
  rw [if_neg hb]
  exact ⟨by simp,At.nil h0 h1,by simp,by omega,by omega⟩
theorem eZH (x:S66) (h:1≤x.f0∧x.f0≤36):aZT x=x.f0 :: (optE (bZD x.f0).1 x.f1++(optE (bZD x.f0).2.1 x.f2++optE (bZD x.f0).2.2 x.f3)):=by
  unfold aZT optE
  rw [show x.f0 % 256=x.f0 by omega]
  simp
theorem instr_code:Code1 aZ9 aZT (fun x=>cZ2 x=true):=by
 refine ⟨fun bs p x hx hA=>?_,fun bs p x q hb hp h=>?_,fun bs more p hp=>?_⟩
 ·
  unfold cZ2 at hx
  simp only [Bool.and_eq_true,decide_eq_true_eq] at hx
  obtain ⟨h0,h1,h2,h3⟩:=hx
  rw [eZH x h0] at hA ⊢
  obtain ⟨a1,a2,a3,a4⟩:=hA.head
  obtain ⟨b1,b2⟩:=a4.split
  obtain ⟨b2,b3⟩:=b2.split
  unfold aZ9
  rw [if_neg (by omega),a1,if_neg (by omega)]
  simp only [aZH]
  rw [getN_rt h1 b1]
  dsimp only
  rw [getN_rt h2 b2]
  dsimp only
  rw [getN_rt h3 b3]
  dsimp only
  simp only [List.length_cons,List.length_append]
  congr 2
  omega
 ·
  unfold aZ9 at h
  by_cases hend:(bs.length:Int)≤p
  · rw [if_pos hend] at h;simp at h
  rw [if_neg hend] at h
  by_cases hop:bs.getD p.toNat 0<1∨36<bs.getD p.toNat 0
  · rw [if_pos hop] at h;simp at h
  rw [if_neg hop] at h
  simp only [aZH] at h
  cases g1:getN bs (bZD (bs.getD p.toNat 0)).1 0 (p+1) with
  | error f=>rw [g1] at h;simp at h
  | ok y1 =>
   obtain ⟨n1,q1⟩:=y1
   rw [g1] at h
   dsimp only at h
   cases g2:getN bs (bZD (bs.getD p.toNat 0)).2.1 0 q1 with
   | error f=>rw [g2] at h;simp at h
   | ok y2 =>
    obtain ⟨n2,q2⟩:=y2
    rw [g2] at h
    dsimp only at h
    cases g3:getN bs (bZD (bs.getD p.toNat 0)).2.2 0 q2 with
    | error f=>rw [g3] at h;simp at h
    | ok y3 =>
     obtain ⟨n3,q3⟩:=y3
     rw [g3] at h
     simp only [Except.ok.injEq,Prod.mk.injEq] at h
     obtain ⟨rfl,rfl⟩:=h
     obtain ⟨r1,r2,r3,r4,r5⟩:=getN_of hb (by omega) (by omega) g1
     obtain ⟨s1,s2,s3,s4,s5⟩:=getN_of hb (by omega) (by omega) g2
     obtain ⟨t1,t2,t3,t4,t5⟩:=getN_of hb (by omega) (by omega) g3
     have hop':1≤bs.getD p.toNat 0∧bs.getD p.toNat 0≤36:=by omega
     rw [eZH _ hop']
     refine ⟨?_,?_,?_⟩
     ·
      unfold cZ2
      simp only [Bool.and_eq_true,decide_eq_true_eq]
      exact ⟨hop',r1,s1,t1⟩
     ·
      refine At.cons hp (by omega) (r2.join ?_)
      rw [←r3]
      refine s2.join ?_
      rw [←s3]
      exact t2
     ·
      simp only [List.length_cons,List.length_append]
      omega
 ·
  unfold aZ9
  by_cases hend:(bs.length:Int)≤p
  · left;rw [if_pos hend]
  rw [if_neg hend,if_neg (show ¬((bs++more).length:Int)≤p by rw [List.length_append];omega)]
  have hg:(bs++more).getD p.toNat 0=bs.getD p.toNat 0:=by
   rw [List.getD_eq_getElem?_getD,List.getD_eq_getElem?_getD,List.getElem?_append_left (by omega)]
  rw [hg]
  by_cases hop:bs.getD p.toNat 0<1∨36<bs.getD p.toNat 0
  · right;rw [if_pos hop,if_pos hop]
  rw [if_neg hop,if_neg hop]
  simp only [aZH]
  have fw:∀ b d q y q2,getN bs b d q=.ok (y,q2)→q≤q2:=fun b d q y q2 h=>by
   unfold getN at h
   split at h
   · have:=aZt h;omega
   · simp only [Except.ok.injEq,Prod.mk.injEq] at h;omega
  rcases getN_x bs more (bZD (bs.getD p.toNat 0)).1 0 (p+1) (by omega) with h|h
  · left;rw [h]
  rw [h]
  cases g1:getN bs (bZD (bs.getD p.toNat 0)).1 0 (p+1) with
  | error f=>exact .inr rfl
  | ok y1 =>
   obtain ⟨n1,q1⟩:=y1
   have:=fw _ _ _ _ _ g1
   dsimp only
   rcases getN_x bs more (bZD (bs.getD p.toNat 0)).2.1 0 q1 (by omega) with h|h
   · left;rw [h]
   rw [h]
   cases g2:getN bs (bZD (bs.getD p.toNat 0)).2.1 0 q1 with
   | error f=>exact .inr rfl
   | ok y2 =>
    obtain ⟨n2,q2⟩:=y2
    have:=fw _ _ _ _ _ g2
    dsimp only
    rcases getN_x bs more (bZD (bs.getD p.toNat 0)).2.2 0 q2 (by omega) with h|h
    · left;rw [h]
    rw [h]
    exact .inr rfl
theorem codeL_rt (bs:List Int):∀ (l:List S66) (q:Int) (acc:List S66),l.all cZ2=true→At bs q ((l.map aZT).flatten)→cZj bs l.length q acc=.ok (acc++l,q+((l.map aZT).flatten).length)
  | [],q,acc,_,_=>by simp [cZj]
  | x :: l,q,acc,hr,hA=>by
    rw [List.all_cons,Bool.and_eq_true] at hr
    rw [List.map_cons,List.flatten_cons] at hA ⊢
    obtain ⟨a1,a2⟩:=hA.split
    rw [List.length_cons,cZj,instr_code.rt bs q x hr.1 a1]
    dsimp only
    rw [codeL_rt bs l _ (acc++[x]) hr.2 a2]
    congr 2
    · simp
    · rw [List.length_append]
      omega
theorem codeL_of (bs:List Int) (hb:bZ3 bs):∀ (d:Nat) (q:Int) (acc r:List S66) (q2:Int),0≤q→q≤bs.length→cZj bs d q acc=.ok (r,q2) →
    ∃ l,r=acc++l∧l.length=d∧l.all cZ2=true∧At bs q ((l.map aZT).flatten)∧q2=q+((l.map aZT).flatten).length
  | 0,q,acc,r,q2,h0,hl,h=>by
    rw [cZj] at h
    simp only [Except.ok.injEq,Prod.mk.injEq] at h
    exact ⟨[],by simp [h.1],rfl,rfl,At.nil h0 hl,by simp [h.2]⟩
  | d+1,q,acc,r,q2,h0,hl,h=>by
    rw [cZj] at h
    cases ho:aZ9 bs q with
    | error f=>rw [ho] at h;simp at h
    | ok xq =>
      obtain ⟨x,q1⟩:=xq
      rw [ho] at h
      dsimp only at h
      obtain ⟨o1,o2,o3⟩:=instr_code.of bs q x q1 hb h0 ho
      have ha:=eZb bs q x q1 h0 ho
      obtain ⟨l,l1,l2,l3,l4,l5⟩:=codeL_of bs hb d q1 (acc++[x]) r q2 (by omega) ha.2 h
      refine ⟨x :: l,by simp [l1],by simp [l2],by rw [List.all_cons,o1,l3];rfl,?_,?_⟩
      · rw [List.map_cons,List.flatten_cons]
        exact o2.join (by rw [←o3];exact l4)
      · rw [List.map_cons,List.flatten_cons,List.length_append,l5]
        omega
theorem headL_rt (bs:List Int) (h:At bs 0 [66,82,84,1]):bZ2 bs 4 0=none:=by
  obtain ⟨a0,a1,_,h⟩:=h.head
  obtain ⟨b0,b1,_,h⟩:=h.head
  obtain ⟨c0,c1,_,h⟩:=h.head
  obtain ⟨d0,d1,_,_⟩:=h.head
  have e0:bs.getD 0 0=66:=a0
  have e1:bs.getD 1 0=82:=b0
  have e2:bs.getD 2 0=84:=c0
  have e3:bs.getD 3 0=1:=d0
  unfold bZ2
  rw [if_neg (by omega),e0,if_neg (by decide)]
  unfold bZ2
  rw [if_neg (by omega),e1,if_neg (by decide)]
  unfold bZ2
  rw [if_neg (by omega),e2,if_neg (by decide)]
  unfold bZ2
  rw [if_neg (by omega),e3,if_neg (by decide)]
  rfl
theorem headL_of (bs:List Int) (h:bZ2 bs 4 0=none):At bs 0 [66,82,84,1]:=by
 have st:∀ d i,bZ2 bs (d+1) i=none→i<bs.length∧bs.getD i 0=eZe i∧bZ2 bs d (i+1)=none:=by
  intro d i hh
  rw [bZ2] at hh
  by_cases h1:bs.length≤i
  · rw [if_pos h1] at hh;cases hh
  rw [if_neg h1] at hh
  by_cases h2:bs.getD i 0≠eZe i
  · rw [if_pos h2] at hh;cases hh
  rw [if_neg h2] at hh
  exact ⟨by omega,Classical.not_not.1 h2,hh⟩
 obtain ⟨a1,a2,h⟩:=st 3 0 h
 obtain ⟨b1,b2,h⟩:=st 2 1 h
 obtain ⟨c1,c2,h⟩:=st 1 2 h
 obtain ⟨d1,d2,_⟩:=st 0 3 h
 have s4:At bs ((0:Int)+1+1+1+1) []:=At.nil (by omega) (by omega)
 have s3:=At.cons (bs:=bs) (p:=(0:Int)+1+1+1) (by omega) (by omega) s4
 have s2:=At.cons (bs:=bs) (p:=(0:Int)+1+1) (by omega) (by omega) s3
 have s1:=At.cons (bs:=bs) (p:=(0:Int)+1) (by omega) (by omega) s2
 have s0:=At.cons (bs:=bs) (p:=(0:Int)) (by omega) (by omega) s1
 have e0:bs.getD (0:Int).toNat 0=66:=a2
 have e1:bs.getD ((0:Int)+1).toNat 0=82:=b2
 have e2:bs.getD ((0:Int)+1+1).toNat 0=84:=c2
 have e3:bs.getD ((0:Int)+1+1+1).toNat 0=1:=d2
 rw [e0,e1,e2,e3] at s0
 exact s0
theorem T_code (hi:Int) (hhi:hi≤4096):Code1 (fun bs p=>aZO ByteArray.empty (bZi bs) cmpS bs p 0 hi) (aZo aZ0) (fun l=>(0:Int)≤l.length∧(l.length:Int)≤hi∧aZU cmpS okS none l=true):=cZC text_codeB bZb 0 hi (by omega) (by omega)
theorem N_code (hi:Int) (hhi:hi≤4096):Code1 (fun bs p=>aZO 0 (numF bs) cmpI bs p 0 hi) (aZo bZM) (fun l=>(0:Int)≤l.length∧(l.length:Int)≤hi∧aZU cmpI okI none l=true):=cZC num_codeB bZj 0 hi (by omega) (by omega)
theorem S_code (hi:Int) (hhi:hi≤4096):Code1 (fun bs p=>aZO [] (bZf bs) (cmpL cmpS) bs p 0 hi) (aZo (aZo aZ0)) (fun l=>(0:Int)≤l.length∧(l.length:Int)≤hi∧aZU (cmpL cmpS) okSS none l=true):=cZC texts_codeB dZ1 0 hi (by omega) (by omega)
theorem M_code (hi:Int) (hhi:hi≤4096):Code1 (fun bs p=>aZO [] (bZr bs) (cmpL cmpI) bs p 0 hi) (aZo (aZo bZM)) (fun l=>(0:Int)≤l.length∧(l.length:Int)≤hi∧aZU (cmpL cmpI) okII none l=true):=cZC nums_codeB eZr 0 hi (by omega) (by omega)
theorem eZB (g:Pg):cZg g=true↔g.T.length+g.N.length+g.S.length+g.M.length≤4096∧g.C.length≤32768∧(0≤g.dep∧g.dep≤128∧0≤g.loc∧g.loc≤1024)∧aZU cmpS okS none g.T=true∧aZU cmpI okI none g.N=true∧aZU (cmpL cmpS) okSS none g.S=true∧aZU (cmpL cmpI) okII none g.M=true∧g.C.all cZ2=true:=by
  unfold cZg
  simp only [Bool.and_eq_true,decide_eq_true_eq]
theorem encP_eq (g:Pg):encP g=[66,82,84,1]++(aZI g.dep++(aZI g.loc++(aZo aZ0 g.T++(aZo bZM g.N++(aZo (aZo aZ0) g.S++(aZo (aZo bZM) g.M++aZo aZT g.C)))))):=by
  unfold encP
  simp only [List.append_assoc]
theorem fZT (g:Pg) (hg:cZg g=true) (bs:List Int) (hA:At bs 0 (encP g)):aZG bs=pEnd bs g (encP g).length:=by
  obtain ⟨h1,h2,⟨d1,d2,d3,d4⟩,hT,hN,hS,hM,hC⟩:=(eZB g).1 hg
  rw [encP_eq] at hA ⊢
  obtain ⟨aH,hA⟩:=hA.split
  obtain ⟨aD,hA⟩:=hA.split
  obtain ⟨aL,hA⟩:=hA.split
  obtain ⟨aT,hA⟩:=hA.split
  obtain ⟨aN,hA⟩:=hA.split
  obtain ⟨aS,hA⟩:=hA.split
  obtain ⟨aM,aC⟩:=hA.split
  have e4:(0:Int)+([66,82,84,1]:List Int).length=4:=rfl
  rw [e4] at aD aL aT aN aS aM aC
  rw [show aZo aZT g.C=aZI g.C.length++(g.C.map aZT).flatten from rfl] at aC
  obtain ⟨aK,aC⟩:=aC.split
  unfold aZG
  rw [headL_rt bs aH]
  dsimp only
  unfold pDep
  rw [bZ0 d1 (by omega) d1 d2 aD]
  dsimp only
  unfold pLoc
  rw [bZ0 d3 (by omega) d3 d4 aL]
  dsimp only
  unfold pT
  rw [(T_code 4096 (by omega)).rt bs _ g.T ⟨by omega,by omega,hT⟩ aT]
  dsimp only
  unfold pN
  rw [(N_code (4096 - g.T.length) (by omega)).rt bs _ g.N ⟨by omega,by omega,hN⟩ aN]
  dsimp only
  unfold pS
  rw [(S_code (4096 - g.T.length - g.N.length) (by omega)).rt bs _ g.S ⟨by omega,by omega,hS⟩ aS]
  dsimp only
  unfold pM
  rw [(M_code (4096 - g.T.length - g.N.length - g.S.length) (by omega)).rt bs _ g.M ⟨by omega,by omega,hM⟩ aM]
  dsimp only
  unfold dZN
  rw [bZ0 (by omega) (by omega) (by omega) (by omega) aK]
  dsimp only
  unfold dZe
  rw [Int.toNat_natCast,codeL_rt bs g.C _ [] hC aC]
  dsimp only
  rw [List.nil_append]
  congr 1
  show _=(([66,82,84,1]++(aZI g.dep++(aZI g.loc++(aZo aZ0 g.T++(aZo bZM g.N++(aZo (aZo aZ0) g.S++(aZo (aZo bZM) g.M++(aZI g.C.length++(g.C.map aZT).flatten))))))):List Int).length:Int)
  simp only [List.length_append,List.length_cons,List.length_nil]
  omega
theorem dZM (bs:List Int) (hb:bZ3 bs) (g:Pg) (q:Int) (h:aZG bs=.ok (g,q)):cZg g=true∧bs=encP g:=by
 unfold aZG at h
 cases h0:bZ2 bs 4 0 with
 | some f=>rw [h0] at h;simp at h
 | none =>
 rw [h0] at h
 have aH:=headL_of bs h0
 have lH:=aH.le
 dsimp only at h
 unfold pDep at h
 cases h1:aZm bs 4 0 128 with
 | error f=>rw [h1] at h;simp at h
 | ok x1 =>
 obtain ⟨dep,q1⟩:=x1
 rw [h1] at h
 obtain ⟨d0,d1,d2,aD,e1⟩:=cZi hb (by omega) h1
 have n1:=aZt h1
 dsimp only at h
 unfold pLoc at h
 cases h2:aZm bs q1 0 1024 with
 | error f=>rw [h2] at h;simp at h
 | ok x2 =>
 obtain ⟨loc,q2⟩:=x2
 rw [h2] at h
 obtain ⟨l0,l1,l2,aL,e2⟩:=cZi hb (by omega) h2
 have n2:=aZt h2
 dsimp only at h
 unfold pT at h
 cases h3:aZO ByteArray.empty (bZi bs) cmpS bs q2 0 4096 with
 | error f=>rw [h3] at h;simp at h
 | ok x3 =>
 obtain ⟨T,q3⟩:=x3
 rw [h3] at h
 obtain ⟨⟨t0,t1,t2⟩,aT,e3⟩:=(T_code 4096 (by omega)).of bs q2 T q3 hb (by omega) h3
 have n3:=bZV (bZb bs) (by omega) (by omega) h3
 dsimp only at h
 unfold pN at h
 cases h4:aZO 0 (numF bs) cmpI bs q3 0 (4096 - T.length) with
 | error f=>rw [h4] at h;simp at h
 | ok x4 =>
 obtain ⟨N,q4⟩:=x4
 rw [h4] at h
 obtain ⟨⟨u0,u1,u2⟩,aN,e4⟩:=(N_code (4096 - T.length) (by omega)).of bs q3 N q4 hb (by omega) h4
 have n4:=bZV (bZj bs) (by omega) (by omega) h4
 dsimp only at h
 unfold pS at h
 cases h5:aZO [] (bZf bs) (cmpL cmpS) bs q4 0 (4096 - T.length - N.length) with
 | error f=>rw [h5] at h;simp at h
 | ok x5 =>
 obtain ⟨S,q5⟩:=x5
 rw [h5] at h
 obtain ⟨⟨v0,v1,v2⟩,aS,e5⟩:=(S_code (4096 - T.length - N.length) (by omega)).of bs q4 S q5 hb (by omega) h5
 have n5:=bZV (dZ1 bs) (by omega) (by omega) h5
 dsimp only at h
 unfold pM at h
 cases h6:aZO [] (bZr bs) (cmpL cmpI) bs q5 0 (4096 - T.length - N.length - S.length) with
 | error f=>rw [h6] at h;simp at h
 | ok x6 =>
 obtain ⟨M,q6⟩:=x6
 rw [h6] at h
 obtain ⟨⟨w0,w1,w2⟩,aM,e6⟩:=(M_code (4096 - T.length - N.length - S.length) (by omega)).of bs q5 M q6 hb (by omega) h6
 have n6:=bZV (eZr bs) (by omega) (by omega) h6
 dsimp only at h
 unfold dZN at h
 cases h7:aZm bs q6 0 32768 with
 | error f=>rw [h7] at h;simp at h
 | ok x7 =>
 obtain ⟨k,q7⟩:=x7
 rw [h7] at h
 obtain ⟨k0,k1,k2,aK,e7⟩:=cZi hb (by omega) h7
 have n7:=aZt h7
 dsimp only at h
 unfold dZe at h
 cases h8:cZj bs k.toNat q7 [] with
 | error f=>rw [h8] at h;simp at h
 | ok x8 =>
 obtain ⟨C,q8⟩:=x8
 rw [h8] at h
 obtain ⟨C2,c1,c2,c3,aC,e8⟩:=codeL_of bs hb k.toNat q7 [] C q8 (by omega) (by omega) h8
 rw [List.nil_append] at c1
 subst c1
 have ek:(C.length:Int)=k:=by omega
 dsimp only at h
 unfold pEnd at h
 by_cases hr:q8<bs.length
 · rw [if_pos hr] at h;simp at h
 rw [if_neg hr] at h
 simp only [Except.ok.injEq,Prod.mk.injEq] at h
 obtain ⟨rfl,rfl⟩:=h
 refine ⟨(eZB _).2 ⟨by dsimp only;omega,by dsimp only;omega,⟨d1,d2,l1,l2⟩,t2,u2,v2,w2,c3⟩,?_⟩
 have aCode:At bs q6 (aZo aZT C):=by
  unfold aZo
  rw [ek]
  exact aK.join (by rw [←e7];exact aC)
 have hA:At bs 0 (encP ⟨T,N,S,M,C,dep,loc⟩):=by
  rw [encP_eq]
  refine aH.join ?_
  refine aD.join ?_
  rw [←e1]
  refine aL.join ?_
  rw [←e2]
  refine aT.join ?_
  rw [←e3]
  refine aN.join ?_
  rw [←e4]
  refine aS.join ?_
  rw [←e5]
  refine aM.join ?_
  rw [←e6]
  exact aCode
 obtain ⟨pre,post,e,hp⟩:=hA
 have hpre:pre=[]:=List.eq_nil_of_length_eq_zero (by omega)
 subst hpre
 have hlen:((encP ⟨T,N,S,M,C,dep,loc⟩).length:Int)=q8:=by
  rw [encP_eq]
  show (([66,82,84,1]++(aZI dep++(aZI loc++(aZo aZ0 T++(aZo bZM N++(aZo (aZo aZ0) S++(aZo (aZo bZM) M++(aZI C.length++(C.map aZT).flatten))))))):List Int).length:Int)=q8
  rw [ek]
  simp only [List.length_append,List.length_cons,List.length_nil]
  omega
 have hpost:post=[]:=by
  have:=congrArg List.length e
  simp only [List.length_append,List.length_nil] at this
  exact List.eq_nil_of_length_eq_zero (by omega)
 subst hpost
 rw [e]
 simp
theorem program_rt (g:Pg) (hg:cZg g=true):aZG (encP g)=.ok (g,((encP g).length:Int)):=by
  rw [fZT g hg (encP g) ⟨[],[],by simp,rfl⟩]
  unfold pEnd
  rw [if_neg (by omega)]
end Go.Proofs.Ytbnplhmmbnmagaa.D
