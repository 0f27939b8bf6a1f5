/- Encode: its walk. -/
import Derived.Test.YtbnplhmmbnmagaazAMm12
import Derived.Test.YtbnplhmmbnmagaazAMm2
import Derived.Test.YtbnplhmmbnmagaazAMm3
import Derived.Test.YtbnplhmmbnmagaazAMm4
import Derived.Lib.SlBytesConst
import Derived.ArgAppend
set_option maxRecDepth 100000
set_option linter.all false
namespace Go.Proofs.Ytbnplhmmbnmagaa.D
open Go.RowKit Go.Proofs.YtbnplhmmbnmagaaW.PrintWords Go.Proofs.YtbnplhmmbnmagaaW.PrintLast Go.Proofs.YtbnplhmmbnmagaaW.PrintMore Go.Proofs.Ytbnplhmmbnmagaa.All
theorem own_ints {W:World} {base:Nat} {ok:Nat→Prop} {v:Value} {xs:List Int} (h:W.ownsRow base 5 1 v xs.length (xs.map (Value.int .u8))) (hok:∀ k,base≤k→ok k):(Kd.int .u8).R 5 W base ok v xs :=
  ⟨fun k hk=>hok k (bZo h k hk),xs.map (Value.int .u8),h,Kd.reps_scalar (enc:=Value.int .u8) xs⟩
theorem bZE {α:Type} (cmp:α→α→Int) (ok:α→Bool):∀ (p:Option α) (l:List α),aZW cmp ok p l=true→∀ x∈l,ok x=true
  | _,[],_,x,hx=>by cases hx
  | none,y :: l,h,x,hx=>by
    simp only [aZW,Bool.and_eq_true] at h
    rcases List.mem_cons.1 hx with rfl|hx
    · exact h.1
    · exact bZE cmp ok _ l h.2 x hx
  | some z,y :: l,h,x,hx=>by
    simp only [aZW,Bool.and_eq_true] at h
    rcases List.mem_cons.1 hx with rfl|hx
    · exact h.1.1
    · exact bZE cmp ok _ l h.2 x hx
theorem okSS_all {l:List ByteArray} (h:okSS l=true):l.length≤1000∧∀ s∈l,s.size≤127:=by
  unfold okSS at h
  simp only [Bool.and_eq_true,decide_eq_true_eq] at h
  refine ⟨h.1.2,fun s hs=>?_⟩
  have:=bZE _ _ _ _ h.2 s hs
  simpa [okS] using this
theorem okII_all {l:List Int} (h:okII l=true):l.length≤1000∧∀ n∈l,-1000000000000000000≤n∧n≤1000000000000000000:=by
  unfold okII at h
  simp only [Bool.and_eq_true,decide_eq_true_eq] at h
  refine ⟨h.1.2,fun s hs=>?_⟩
  have:=bZE _ _ _ _ h.2 s hs
  simpa [okI] using this
theorem fZQ {b:Bool} {n:Int} (h:opOK b n=true):0≤n∧n≤65535:=by
 unfold opOK at h
 split at h
 · simpa using h
 ·
  have:n=0:=by simpa using h
  omega
structure Form (g:Pg):Prop where
  len:g.T.length+g.N.length+g.S.length+g.M.length≤4096
  clen:g.C.length≤32768
  dep:0≤g.dep∧g.dep≤128
  loc:0≤g.loc∧g.loc≤1024
  T:∀ s∈g.T,s.size≤127
  N:∀ n∈g.N,-1000000000000000000≤n∧n≤1000000000000000000
  S:∀ y∈g.S,y.length≤1000∧∀ s∈y,s.size≤127
  M:∀ y∈g.M,y.length≤1000∧∀ n∈y,-1000000000000000000≤n∧n≤1000000000000000000
  C:∀ x∈g.C,(0≤x.f1∧x.f1≤65535)∧(0≤x.f2∧x.f2≤65535)∧(0≤x.f3∧x.f3≤65535)
theorem dZz {g:Pg} (h:bZ7 g=true):Form g:=by
 unfold bZ7 at h
 simp only [Bool.and_eq_true,decide_eq_true_eq] at h
 obtain ⟨h1,h2,h3,h4,h5,h6,h7,h8⟩:=h
 refine ⟨h1,h2,⟨h3.1,h3.2.1⟩,⟨h3.2.2.1,h3.2.2.2⟩,fun s hs=>?_,fun n hn=>?_,fun y hy=>okSS_all (bZE _ _ _ _ h6 y hy),fun y hy=>okII_all (bZE _ _ _ _ h7 y hy),fun x hx=>?_⟩
 · simpa [okS] using bZE _ _ _ _ h4 s hs
 · simpa [okI] using bZE _ _ _ _ h5 n hn
 ·
  have:=List.all_eq_true.1 h8 x hx
  unfold dZa at this
  simp only [Bool.and_eq_true] at this
  exact ⟨fZQ this.2.1,fZQ this.2.2.1,fZQ this.2.2.2⟩
def At (bs:List Int) (p:Int) (l:List Int):Prop:=∃ pre post,bs=pre++l++post∧(pre.length:Int)=p
theorem At.head {bs:List Int} {p a:Int} {l:List Int} (h:At bs p (a :: l)):bs.getD p.toNat 0=a∧p<bs.length∧0≤p∧At bs (p+1) l:=by
  obtain ⟨pre,post,rfl,rfl⟩:=h
  refine ⟨by simp,by simp;omega,by omega,pre++[a],post,by simp,by simp⟩
theorem At.cons {bs:List Int} {p:Int} {l:List Int} (h0:0≤p) (h1:p<bs.length) (h:At bs (p+1) l):At bs p (bs.getD p.toNat 0 :: l):=by
  obtain ⟨pre,post,e,hp⟩:=h
  have hne:pre≠[]:=by rintro rfl;simp at hp;omega
  have hd:pre=pre.dropLast++[pre.getLast hne]:=(List.dropLast_concat_getLast hne).symm
  have hl:(pre.dropLast.length:Int)=p:=by
    have:pre.dropLast.length=pre.length - 1:=List.length_dropLast
    have:0<pre.length:=List.length_pos_iff.2 hne
    omega
  refine ⟨pre.dropLast,post,?_,hl⟩
  have hg:bs.getD p.toNat 0=pre.getLast hne:=by
    have e2:bs=pre.dropLast++(pre.getLast hne :: (l++post)):=by rw [e];conv=>lhs;rw [hd];simp
    rw [e2,←hl,Int.toNat_natCast]
    simp
  rw [hg,e]
  conv=>lhs;rw [hd]
  simp
theorem At.nil {bs:List Int} {p:Int} (h0:0≤p) (h1:p≤bs.length):At bs p []:=⟨bs.take p.toNat,bs.drop p.toNat,by simp,by rw [List.length_take];omega⟩
theorem At.split {bs:List Int} {p:Int} {l m:List Int} (h:At bs p (l++m)):At bs p l∧At bs (p+l.length) m:=by
  obtain ⟨pre,post,rfl,rfl⟩:=h
  exact ⟨⟨pre,m++post,by simp,rfl⟩,⟨pre++l,post,by simp,by simp⟩⟩
theorem At.join {bs:List Int} {p:Int} {l m:List Int} (h:At bs p l) (k:At bs (p+l.length) m):At bs p (l++m):=by
  obtain ⟨pre,post,rfl,rfl⟩:=h
  obtain ⟨pre2,post2,e,hp⟩:=k
  have e1:pre2=pre++l:=by
    have:=congrArg (List.take (pre++l).length) e
    rw [List.take_left,List.append_assoc pre2,←List.append_assoc] at this
    have hlen:pre2.length=(pre++l).length:=by rw [List.length_append];omega
    rw [←hlen,List.append_assoc,List.take_left] at this
    exact this.symm
  subst e1
  exact ⟨pre,post2,by simpa using e,rfl⟩
theorem At.le {bs:List Int} {p:Int} {l:List Int} (h:At bs p l):0≤p∧p+l.length≤bs.length:=by
  obtain ⟨pre,post,rfl,rfl⟩:=h
  simp
  omega
theorem gZE (bs:List Int) (frm lo hi:Int):∀ (F i:Nat) (p m n:Int),i+F=9→0≤n→n<128 ^ F→(n=0→i=0)→At bs p (cntF F n)→lo≤m+n*128 ^ i→m+n*128 ^ i≤hi→bZQ bs frm lo hi F i p m=.ok (m+n*128 ^ i,p+(cntF F n).length)
 | 0,i,p,m,n,hi9,h0,h1,hz,hA,hlo,hhi=>by
  have:n<1:=h1
  have:=hz (by omega)
  omega
 | F+1,i,p,m,n,hi9,h0,h1,hz,hA,hlo,hhi=>by
  by_cases hc:128≤n
  ·
   have ec:cntF (F+1) n=(n % 128+128) :: cntF F (n / 128):=by rw [cntF,if_pos hc]
   rw [ec] at hA ⊢
   obtain ⟨g1,g2,g3,g4⟩:=hA.head
   have hpow:n / 128<128 ^ F:=by
    rw [Int.pow_succ] at h1
    exact Int.ediv_lt_of_lt_mul (by omega) h1
   have hi8:¬i=8:=by
    rintro rfl
    have:F=0:=by omega
    subst this
    have:n / 128<1:=hpow
    omega
   have em:m+(n % 128+128) % 128*128 ^ i=m+n % 128*128 ^ i:=by
    congr 2
    omega
   rw [aZP bs frm lo hi F i p m _ _ g1 em,if_neg (by omega),if_neg (by omega),if_pos (by omega)]
   have esum:m+n % 128*128 ^ i+n / 128*128 ^ (i+1)=m+n*128 ^ i:=by
    have hn:n=n % 128+n / 128*128:=by omega
    rw [Int.pow_succ]
    conv=>rhs;rw [hn]
    rw [Int.add_mul,Int.mul_assoc,Int.mul_comm 128,Int.add_assoc]
   rw [gZE bs frm lo hi F (i+1) (p+1) _ (n / 128) (by omega) (by omega) hpow (by omega) g4 (by rw [esum];exact hlo) (by rw [esum];exact hhi),esum]
   congr 2
   simp only [List.length_cons]
   omega
  ·
   have ec:cntF (F+1) n=[n]:=by
    rw [cntF,if_neg hc]
    congr 1
    omega
   rw [ec] at hA ⊢
   obtain ⟨g1,g2,g3,g4⟩:=hA.head
   have em:m+n % 128*128 ^ i=m+n*128 ^ i:=by
    congr 2
    omega
   rw [aZP bs frm lo hi F i p m _ _ g1 em,if_neg (by omega),if_neg (by omega),if_neg (by omega),if_neg (fun h=>by have:=hz h.1;omega),if_neg (by omega)]
   rfl
theorem bZ3 {bs:List Int} {p lo hi n:Int} (h0:0≤n) (h1:n≤2000000000000000000) (hlo:lo≤n) (hhi:n≤hi) (hA:At bs p (aZL n)):aZn bs p lo hi=.ok (n,p+(aZL n).length):=by
  have h128:(128:Int) ^ 9=9223372036854775808:=by decide
  have:=gZE bs p lo hi 9 0 p 0 n rfl h0 (by omega) (fun _=>rfl) hA (by simpa using hlo) (by simpa using hhi)
  unfold aZn aZL
  rw [this]
  simp
theorem gZG (bs:List Int) (hb:∀ x∈bs,0≤x∧x≤255) (frm lo hi:Int):∀ (F i:Nat) (p m x q:Int),i+F=9→0≤p→bZQ bs frm lo hi F i p m=.ok (x,q)→∃ n,0≤n∧n<128 ^ F∧(n=0→i=0)∧x=m+n*128 ^ i∧At bs p (cntF F n)∧q=p+(cntF F n).length
 | 0,i,p,m,x,q,_,_,h=>by simp [bZQ] at h
 | F+1,i,p,m,x,q,hi9,hp,h=>by
  rw [aZP bs frm lo hi F i p m _ _ rfl rfl] at h
  by_cases hend:(bs.length:Int)≤p
  · rw [if_pos hend] at h;simp at h
  rw [if_neg hend] at h
  have hc:=hb (bs.getD p.toNat 0) (by rw [List.getD_eq_getElem?_getD,List.getElem?_eq_getElem (by omega)];simp)
  by_cases h8:i=8∧128≤bs.getD p.toNat 0
  · rw [if_pos h8] at h;simp at h
  rw [if_neg h8] at h
  by_cases hge:128≤bs.getD p.toNat 0
  ·
   rw [if_pos hge] at h
   obtain ⟨n,n0,n1,n2,n3,n4,n5⟩:=gZG bs hb frm lo hi F (i+1) (p+1) _ x q (by omega) (by omega) h
   have hn0:n≠0:=fun e=>by have:=n2 e;omega
   have hdiv:(bs.getD p.toNat 0 % 128+n*128) / 128=n:=by omega
   have hmod:(bs.getD p.toNat 0 % 128+n*128) % 128+128=bs.getD p.toNat 0:=by omega
   have ec:cntF (F+1) (bs.getD p.toNat 0 % 128+n*128)=bs.getD p.toNat 0 :: cntF F n:=by rw [cntF,if_pos (by omega),hdiv,hmod]
   refine ⟨bs.getD p.toNat 0 % 128+n*128,by omega,?_,by omega,?_,?_,?_⟩
   ·
    rw [Int.pow_succ]
    omega
   · rw [n3,Int.pow_succ,Int.add_mul,Int.mul_assoc n 128,Int.mul_comm 128,Int.add_assoc]
   ·
    rw [ec]
    exact n4.cons hp (by omega)
   ·
    rw [ec,n5]
    simp only [List.length_cons]
    omega
  rw [if_neg hge] at h
  by_cases hz:bs.getD p.toNat 0=0∧0<i
  · rw [if_pos hz] at h;simp at h
  rw [if_neg hz] at h
  split at h
  · simp at h
  simp only [Except.ok.injEq,Prod.mk.injEq] at h
  have ec:cntF (F+1) (bs.getD p.toNat 0)=[bs.getD p.toNat 0]:=by
   rw [cntF,if_neg hge]
   congr 1
   omega
  refine ⟨bs.getD p.toNat 0,hc.1,?_,by omega,?_,?_,?_⟩
  ·
   have:(0:Int)<128 ^ F:=Int.pow_pos (by omega)
   rw [Int.pow_succ]
   omega
  ·
   rw [←h.1]
   congr 2
   omega
  ·
   rw [ec]
   exact (At.nil (by omega) (by omega)).cons hp (by omega)
  ·
   rw [ec,←h.2]
   rfl
theorem cZn {bs:List Int} (hb:∀ x∈bs,0≤x∧x≤255) {p lo hi x q:Int} (hp:0≤p) (h:aZn bs p lo hi=.ok (x,q)):0≤x∧lo≤x∧x≤hi∧At bs p (aZL x)∧q=p+(aZL x).length:=by
  obtain ⟨n,n0,n1,n2,n3,n4,n5⟩:=gZG bs hb p lo hi 9 0 p 0 x q rfl hp h
  have hx:x=n:=by rw [n3];simp
  subst hx
  have:=aZs h
  exact ⟨n0,this.1,this.2.1,n4,n5⟩
def Ext {α:Type} (f:List Int→Int→Except (Int × Int) (α × Int)):Prop:=∀ bs more p,0≤p→f bs p=.error (201,(bs.length:Int))∨f (bs++more) p=f bs p
theorem fZr (bs more:List Int) (frm lo hi:Int):∀ (F i:Nat) (p m:Int),0≤p→bZQ bs frm lo hi F i p m=.error (201,(bs.length:Int))∨bZQ (bs++more) frm lo hi F i p m=bZQ bs frm lo hi F i p m
 | 0,i,p,m,_=>.inr rfl
 | F+1,i,p,m,hp=>by
  by_cases hend:(bs.length:Int)≤p
  ·
   left
   rw [aZP bs frm lo hi F i p m _ _ rfl rfl,if_pos hend]
  ·
   have hg:(bs++more).getD p.toNat 0=bs.getD p.toNat 0:=by
    rw [List.getD_eq_getElem?_getD,List.getD_eq_getElem?_getD,List.getElem?_append_left (by omega)]
   have hend2:¬((bs++more).length:Int)≤p:=by rw [List.length_append];omega
   have e1:=aZP (bs++more) frm lo hi F i p m _ _ hg rfl
   have e2:=aZP bs frm lo hi F i p m _ _ rfl rfl
   rw [if_neg hend2] at e1
   rw [if_neg hend] at e2
   by_cases h8:i=8∧128≤bs.getD p.toNat 0
   ·
    rw [if_pos h8] at e1 e2
    exact .inr (e1.trans e2.symm)
   rw [if_neg h8] at e1 e2
   by_cases hge:128≤bs.getD p.toNat 0
   ·
    rw [if_pos hge] at e1 e2
    rw [e1,e2]
    exact fZr bs more frm lo hi F (i+1) (p+1) _ (by omega)
   rw [if_neg hge] at e1 e2
   exact .inr (e1.trans e2.symm)
theorem iZi (lo hi:Int):Ext (fun bs p=>aZn bs p lo hi):=fun bs more p hp=>fZr bs more p lo hi 9 0 p 0 hp
abbrev bZ9 (bs:List Int):Prop:=∀ x∈bs,0≤x∧x≤255
structure Code1 {α:Type} (f:List Int→Int→Except (Int × Int) (α × Int)) (enc:α→List Int) (ok:α→Prop):Prop where
  rt:∀ bs p x,ok x→At bs p (enc x)→f bs p=.ok (x,p+(enc x).length)
  of:∀ bs p x q,bZ9 bs→0≤p→f bs p=.ok (x,q)→ok x∧At bs p (enc x)∧q=p+(enc x).length
  ext:Ext f
theorem eZr (lo hi:Int) (bs more:List Int) (p:Int) (hp:0≤p):aZn bs p lo hi=.error (201,(bs.length:Int))∨aZn (bs++more) p lo hi=aZn bs p lo hi:=iZi lo hi bs more p hp
theorem bytes_str (l:List Int) (h:∀ x∈l,0≤x∧x≤255):bytesOf (strOfNums l)=l:=by
  unfold bytesOf strOfNums
  simp only [List.map_map]
  conv=>rhs;rw [←List.map_id l]
  refine List.map_congr_left fun a ha=>?_
  have:=h a ha
  simp
  omega
theorem str_bytes (s:ByteArray):strOfNums (bytesOf s)=s:=by
  unfold bytesOf strOfNums
  rw [List.map_map]
  have:(s.data.toList.map ((fun n:Int=>UInt8.ofNat n.toNat) ∘ fun b:UInt8=>(b.toNat:Int)))=s.data.toList:=by
    conv=>rhs;rw [←List.map_id s.data.toList]
    refine List.map_congr_left fun a _=>?_
    simp
  rw [this]
theorem mid_at {bs l:List Int} {q:Int} (h:At bs q l):(bs.take (q+l.length).toNat).drop q.toNat=l:=by
  obtain ⟨pre,post,rfl,rfl⟩:=h
  have e1:((pre.length:Int)+l.length).toNat=(pre++l).length:=by rw [List.length_append];omega
  rw [e1,List.take_left,Int.toNat_natCast,List.drop_left]
theorem at_mid {bs:List Int} {q n:Int} (h0:0≤q) (hn:0≤n) (h1:q+n≤bs.length):At bs q ((bs.take (q+n).toNat).drop q.toNat)∧((bs.take (q+n).toNat).drop q.toNat).length=n.toNat:=by
  refine ⟨⟨bs.take q.toNat,bs.drop (q+n).toNat,?_,by rw [List.length_take];omega⟩,by rw [List.length_drop,List.length_take];omega⟩
  have e:bs.take q.toNat=(bs.take (q+n).toNat).take q.toNat:=by rw [List.take_take];congr 1;omega
  rw [e,List.take_append_drop,List.take_append_drop]
theorem text_code:Code1 bZh aZ1 (fun s=>s.size≤127):=by
 refine ⟨fun bs p s hs hA=>?_,fun bs p s q hb hp h=>?_,fun bs more p hp=>?_⟩
 ·
  obtain ⟨h1,h2⟩:=hA.split
  have hl:=h2.le
  rw [bZv] at hl
  unfold bZh
  rw [bZ3 (by omega) (by omega) (by omega) (by omega) h1]
  dsimp only
  have hm:=mid_at h2
  rw [bZv] at hm
  rw [if_neg (by omega),hm,str_bytes]
  unfold aZ1
  rw [List.length_append,bZv]
  congr 2
  omega
 ·
  unfold bZh at h
  cases hc:aZn bs p 0 127 with
  | error f=>rw [hc] at h;simp at h
  | ok nq =>
   obtain ⟨n,q1⟩:=nq
   rw [hc] at h
   dsimp only at h
   obtain ⟨c0,c1,c2,c3,c4⟩:=cZn hb hp hc
   split at h
   · simp at h
   ·
    simp only [Except.ok.injEq,Prod.mk.injEq] at h
    obtain ⟨rfl,rfl⟩:=h
    obtain ⟨m1,m2⟩:=at_mid (bs:=bs) (q:=q1) (n:=n) (by omega) c0 (by omega)
    have hbb:bytesOf (strOfNums ((bs.take (q1+n).toNat).drop q1.toNat))=(bs.take (q1+n).toNat).drop q1.toNat:=bytes_str _ (fun x hx=>hb x (List.mem_of_mem_take (List.mem_of_mem_drop hx)))
    have hsz:(strOfNums ((bs.take (q1+n).toNat).drop q1.toNat)).size=n.toNat:=by rw [←bZv,hbb,m2]
    have en:((strOfNums ((bs.take (q1+n).toNat).drop q1.toNat)).size:Int)=n:=by omega
    unfold aZ1
    rw [hbb,en]
    refine ⟨by omega,c3.join (by rw [←c4];exact m1),?_⟩
    rw [List.length_append,m2]
    omega
 ·
  unfold bZh
  rcases eZr 0 127 bs more p hp with h|h
  · left;rw [h]
  ·
   rw [h]
   cases hc:aZn bs p 0 127 with
   | error f=>exact .inr rfl
   | ok nq =>
    obtain ⟨n,q1⟩:=nq
    have hq:=aZs hc
    dsimp only
    by_cases hcut:bs.length - q1<n
    · left;rw [if_pos hcut]
    ·
     right
     rw [if_neg hcut,if_neg (by rw [List.length_append];omega)]
     congr 4
     rw [List.take_append_of_le_length (by omega)]
theorem num_code:Code1 numF bZR (fun n=>-1000000000000000000≤n∧n≤1000000000000000000):=by
 refine ⟨fun bs p n hn hA=>?_,fun bs p n q hb hp h=>?_,fun bs more p hp=>?_⟩
 ·
  unfold numF
  unfold bZR at hA ⊢
  by_cases h:n<0
  ·
   rw [if_pos h] at hA ⊢
   rw [bZ3 (by omega) (by omega) (by omega) (by omega) hA]
   dsimp only
   rw [if_pos (by omega)]
   congr 2
   omega
  ·
   rw [if_neg h] at hA ⊢
   rw [bZ3 (by omega) (by omega) (by omega) (by omega) hA]
   dsimp only
   rw [if_neg (by omega)]
   congr 2
   omega
 ·
  unfold numF at h
  cases hc:aZn bs p 0 2000000000000000000 with
  | error f=>rw [hc] at h;simp at h
  | ok nq =>
   obtain ⟨m,q1⟩:=nq
   rw [hc] at h
   obtain ⟨c0,c1,c2,c3,c4⟩:=cZn hb hp hc
   simp only [Except.ok.injEq,Prod.mk.injEq] at h
   obtain ⟨rfl,rfl⟩:=h
   unfold bZR
   by_cases ho:m % 2=1
   ·
    rw [if_pos ho,if_pos (by omega),show -2*(-(m / 2) - 1) - 1=m by omega]
    exact ⟨by omega,c3,c4⟩
   ·
    rw [if_neg ho,if_neg (by omega),show 2*(m / 2)=m by omega]
    exact ⟨by omega,c3,c4⟩
 ·
  unfold numF
  rcases eZr 0 2000000000000000000 bs more p hp with h|h
  · left;rw [h]
  · right;rw [h]
section
variable {α:Type} {z:α} {one:List Int→Int→Except (Int × Int) (α × Int)} {enc:α→List Int} {okB:α→Bool} {cmp:α→α→Int}
theorem last_test (acc:List α) (x:α) (l:List α) (h:aZW cmp okB acc.getLast? (x :: l)=true):okB x=true∧¬(0<acc.length∧0≤cmp (acc.getD (acc.length - 1) z) x)∧aZW cmp okB (some x) l=true:=by
 rcases List.eq_nil_or_concat acc with rfl | ⟨ys,y,rfl⟩
 ·
  simp only [List.getLast?_nil,aZW,Bool.and_eq_true] at h
  exact ⟨h.1,fun hh=>by simp at hh,h.2⟩
 ·
  simp only [List.getLast?_concat,List.concat_eq_append,List.getLast?_append,List.getLast?_singleton,Option.some_or,aZW,Bool.and_eq_true,Bool.not_eq_true',decide_eq_false_iff_not] at h
  refine ⟨h.1.1,fun hh=>h.1.2 ?_,h.2⟩
  have:=hh.2
  simpa using this
theorem test_last (acc:List α) (x:α) (l:List α) (h1:okB x=true) (h2:¬(0<acc.length∧0≤cmp (acc.getD (acc.length - 1) z) x)) (h3:aZW cmp okB (some x) l=true):aZW cmp okB acc.getLast? (x :: l)=true:=by
 rcases List.eq_nil_or_concat acc with rfl | ⟨ys,y,rfl⟩
 ·
  simp only [List.getLast?_nil,aZW,Bool.and_eq_true]
  exact ⟨h1,h3⟩
 ·
  have h4:¬ 0≤cmp y x:=fun h=>h2 ⟨by simp,by simpa using h⟩
  simp only [List.getLast?_concat,List.concat_eq_append,List.getLast?_append,List.getLast?_singleton,Option.some_or,aZW,Bool.and_eq_true,Bool.not_eq_true',decide_eq_false_iff_not]
  exact ⟨⟨h1,h4⟩,h3⟩
theorem hZz (H:Code1 one enc (fun x=>okB x=true)) (bs:List Int):∀ (l:List α) (q:Int) (acc:List α),aZW cmp okB acc.getLast? l=true→At bs q ((l.map enc).flatten)→aZr z (one bs) cmp l.length q acc=.ok (acc++l,q+((l.map enc).flatten).length)
  | [],q,acc,_,_=>by simp [aZr]
  | x :: l,q,acc,hr,hA=>by
    obtain ⟨h1,h2,h3⟩:=last_test (z:=z) acc x l hr
    rw [List.map_cons,List.flatten_cons] at hA ⊢
    obtain ⟨a1,a2⟩:=hA.split
    rw [List.length_cons,aZr,H.rt bs q x h1 a1]
    dsimp only
    rw [if_neg h2,hZz H bs l _ (acc++[x]) (by rw [List.getLast?_append];exact h3) a2]
    congr 2
    · simp
    · rw [List.length_append]
      omega
theorem hZA (H:Code1 one enc (fun x=>okB x=true)) (hah:∀ bs,dZs bs (one bs)) (bs:List Int) (hb:bZ9 bs):∀ (d:Nat) (q:Int) (acc r:List α) (q2:Int),0≤q→q≤bs.length→aZr z (one bs) cmp d q acc=.ok (r,q2) →
    ∃ l,r=acc++l∧l.length=d∧aZW cmp okB acc.getLast? l=true∧At bs q ((l.map enc).flatten)∧q2=q+((l.map enc).flatten).length
  | 0,q,acc,r,q2,h0,hl,h=>by
    rw [aZr] at h
    simp only [Except.ok.injEq,Prod.mk.injEq] at h
    refine ⟨[],by simp [h.1],rfl,?_,At.nil h0 hl,by simp [h.2]⟩
    cases acc.getLast? <;> rfl
  | d+1,q,acc,r,q2,h0,hl,h=>by
    rw [aZr] at h
    cases ho:one bs q with
    | error f=>rw [ho] at h;simp at h
    | ok xq =>
      obtain ⟨x,q1⟩:=xq
      rw [ho] at h
      dsimp only at h
      obtain ⟨o1,o2,o3⟩:=H.of bs q x q1 hb h0 ho
      have ha:=hah bs q x q1 h0 ho
      split at h
      · simp at h
      · rename_i hn
        obtain ⟨l,l1,l2,l3,l4,l5⟩:=hZA H hah bs hb d q1 (acc++[x]) r q2 (by omega) ha.2 h
        rw [List.getLast?_append] at l3
        refine ⟨x :: l,by simp [l1],by simp [l2],test_last (z:=z) acc x l o1 hn l3,?_,?_⟩
        · rw [List.map_cons,List.flatten_cons]
          exact o2.join (by rw [←o3];exact l4)
        · rw [List.map_cons,List.flatten_cons,List.length_append,l5]
          omega
theorem gZn (H:Code1 one enc (fun x=>okB x=true)) (hah:∀ bs,dZs bs (one bs)) (bs more:List Int):∀ (d:Nat) (q:Int) (acc:List α),0≤q→aZr z (one bs) cmp d q acc=.error (201,(bs.length:Int))∨aZr z (one (bs++more)) cmp d q acc=aZr z (one bs) cmp d q acc
  | 0,q,acc,_=>.inr rfl
  | d+1,q,acc,h0=>by
    rw [aZr,aZr]
    rcases H.ext bs more q h0 with h|h
    · left;rw [h]
    · rw [h]
      cases ho:one bs q with
      | error f=>exact .inr rfl
      | ok xq =>
        obtain ⟨x,q1⟩:=xq
        have ha:=hah bs q x q1 h0 ho
        dsimp only
        split
        · exact .inr rfl
        · exact gZn H hah bs more d q1 _ (by omega)
theorem cZC (H:Code1 one enc (fun x=>okB x=true)) (hah:∀ bs,dZs bs (one bs)) (lo hi:Int) (hlo:0≤lo) (hhi:hi≤2000000000000000000) :
 Code1 (fun bs p=>aZQ z (one bs) cmp bs p lo hi) (aZp enc) (fun l=>lo≤l.length∧(l.length:Int)≤hi∧aZW cmp okB none l=true):=by
 refine ⟨fun bs p l hl hA=>?_,fun bs p l q hb hp h=>?_,fun bs more p hp=>?_⟩
 ·
  obtain ⟨a1,a2⟩:=hA.split
  show aZQ z (one bs) cmp bs p lo hi=_
  unfold aZQ
  rw [bZ3 (by omega) (by omega) hl.1 hl.2.1 a1]
  dsimp only
  rw [Int.toNat_natCast,hZz H bs l _ [] hl.2.2 a2]
  unfold aZp
  rw [List.length_append,List.nil_append]
  congr 2
  omega
 ·
  change aZQ z (one bs) cmp bs p lo hi=_ at h
  unfold aZQ at h
  cases hc:aZn bs p lo hi with
  | error f=>rw [hc] at h;simp at h
  | ok nq =>
   obtain ⟨n,q1⟩:=nq
   rw [hc] at h
   dsimp only at h
   obtain ⟨c0,c1,c2,c3,c4⟩:=cZn hb hp hc
   have hq:=aZs hc
   obtain ⟨l2,e1,e2,e3,e4,e5⟩:=hZA H hah bs hb n.toNat q1 [] l q (by omega) hq.2.2.2 h
   rw [List.nil_append] at e1
   subst e1
   have en:(l.length:Int)=n:=by omega
   refine ⟨⟨by omega,by omega,e3⟩,?_,?_⟩
   ·
    unfold aZp
    rw [en]
    exact c3.join (by rw [←c4];exact e4)
   ·
    unfold aZp
    rw [List.length_append,en,e5,c4]
    omega
 ·
  show aZQ z (one bs) cmp bs p lo hi=_∨aZQ z (one (bs++more)) cmp (bs++more) p lo hi=aZQ z (one bs) cmp bs p lo hi
  unfold aZQ
  rcases eZr lo hi bs more p hp with h|h
  · left;rw [h]
  ·
   rw [h]
   cases hc:aZn bs p lo hi with
   | error f=>exact .inr rfl
   | ok nq =>
    obtain ⟨n,q1⟩:=nq
    have hq:=aZs hc
    exact gZn H hah bs more n.toNat q1 [] (by omega)
end
theorem Code1.imp {α:Type} {f:List Int→Int→Except (Int × Int) (α × Int)} {enc:α→List Int} {ok ok':α→Prop} (H:Code1 f enc ok) (h:∀ x,ok x↔ok' x):Code1 f enc ok' :=
  ⟨fun bs p x hx=>H.rt bs p x ((h x).2 hx),fun bs p x q hb hp hf=>⟨(h x).1 (H.of bs p x q hb hp hf).1,(H.of bs p x q hb hp hf).2⟩,H.ext⟩
theorem text_codeB:Code1 bZh aZ1 (fun s=>okS s=true):=text_code.imp (fun s=>by simp [okS])
theorem num_codeB:Code1 numF bZR (fun s=>okI s=true):=num_code.imp (fun s=>by simp [okI])
theorem texts_codeB : Code1 bZc (aZp aZ1) (fun l => okSS l = true) := (cZC (z := ByteArray.empty) (cmp := cmpS) text_codeB aZ8 1 1000 (by omega) (by omega)).imp (fun l => by
  unfold okSS
  simp only [Bool.and_eq_true,decide_eq_true_eq]
  exact ⟨fun h=>⟨⟨by omega,by omega⟩,h.2.2⟩,fun h=>⟨by omega,by omega,h.2⟩⟩)
theorem nums_codeB : Code1 bZt (aZp bZR) (fun l => okII l = true) := (cZC (z := (0 : Int)) (cmp := cmpI) num_codeB bZp 1 1000 (by omega) (by omega)).imp (fun l => by
  unfold okII
  simp only [Bool.and_eq_true,decide_eq_true_eq]
  exact ⟨fun h=>⟨⟨by omega,by omega⟩,h.2.2⟩,fun h=>⟨by omega,by omega,h.2⟩⟩)
theorem dZ9 (bs:List Int):dZs bs (bZc bs):=bZW _ bs _ _ (aZ8 bs) _ _ (by omega)
theorem eZE (bs:List Int):dZs bs (bZt bs):=bZW _ bs _ _ (bZp bs) _ _ (by omega)
theorem getN_x (bs more:List Int) (b:Bool) (d q:Int) (hq:0≤q):getN bs b d q=.error (201,(bs.length:Int))∨getN (bs++more) b d q=getN bs b d q:=by
 unfold getN
 by_cases hb:b=true
 · rw [if_pos hb,if_pos hb];exact eZr 0 65535 bs more q hq
 · rw [if_neg hb,if_neg hb];exact .inr rfl
def optE (b:Bool) (n:Int):List Int:=if b=true then aZL n else []
theorem gZ7 {bs:List Int} {b:Bool} {q n:Int} (h:opOK b n=true) (hA:At bs q (optE b n)):getN bs b 0 q=.ok (n,q+(optE b n).length):=by
 unfold getN
 unfold opOK at h
 unfold optE at hA ⊢
 by_cases hb:b=true
 ·
  rw [if_pos hb] at h hA ⊢
  have h2:0≤n∧n≤65535:=by simpa using h
  rw [bZ3 h2.1 (by omega) h2.1 h2.2 hA,if_pos hb]
 ·
  rw [if_neg hb] at h hA ⊢
  have h2:n=0:=by simpa using h
  subst h2
  rw [if_neg hb]
  simp
theorem gZ8 {bs:List Int} (hbs:bZ9 bs) {b:Bool} {q n q2:Int} (h0:0≤q) (h1:q≤bs.length) (h:getN bs b 0 q=.ok (n,q2)):opOK b n=true∧At bs q (optE b n)∧q2=q+(optE b n).length∧q≤q2∧q2≤bs.length:=by
 unfold getN at h
 unfold opOK optE
 by_cases hb:b=true
 ·
  rw [if_pos hb] at h ⊢
  obtain ⟨c0,c1,c2,c3,c4⟩:=cZn hbs h0 h
  have hq:=aZs h
  rw [if_pos hb]
  exact ⟨by simpa using ⟨c0,c2⟩,c3,c4,by omega,by omega⟩
 ·
  rw [if_neg hb] at h ⊢
  simp only [Except.ok.injEq,Prod.mk.injEq] at h
  obtain ⟨rfl,rfl⟩:=h
  rw [if_neg hb]
  exact ⟨by simp,At.nil h0 h1,by simp,by omega,by omega⟩
theorem eZS (x:S66) (h:1≤x.f0∧x.f0≤36):aZV x=x.f0 :: (optE (bZG x.f0).1 x.f1++(optE (bZG x.f0).2.1 x.f2++optE (bZG x.f0).2.2 x.f3)):=by
  unfold aZV optE
  rw [show x.f0 % 256=x.f0 by omega]
  simp
theorem instr_code:Code1 aZ7 aZV (fun x=>dZa x=true):=by
 refine ⟨fun bs p x hx hA=>?_,fun bs p x q hb hp h=>?_,fun bs more p hp=>?_⟩
 ·
  unfold dZa at hx
  simp only [Bool.and_eq_true,decide_eq_true_eq] at hx
  obtain ⟨h0,h1,h2,h3⟩:=hx
  rw [eZS x h0] at hA ⊢
  obtain ⟨a1,a2,a3,a4⟩:=hA.head
  obtain ⟨b1,b2⟩:=a4.split
  obtain ⟨b2,b3⟩:=b2.split
  unfold aZ7
  rw [if_neg (by omega),a1,if_neg (by omega)]
  simp only [aZK]
  rw [gZ7 h1 b1]
  dsimp only
  rw [gZ7 h2 b2]
  dsimp only
  rw [gZ7 h3 b3]
  dsimp only
  simp only [List.length_cons,List.length_append]
  congr 2
  omega
 ·
  unfold aZ7 at h
  by_cases hend:(bs.length:Int)≤p
  · rw [if_pos hend] at h;simp at h
  rw [if_neg hend] at h
  by_cases hop:bs.getD p.toNat 0<1∨36<bs.getD p.toNat 0
  · rw [if_pos hop] at h;simp at h
  rw [if_neg hop] at h
  simp only [aZK] at h
  cases g1:getN bs (bZG (bs.getD p.toNat 0)).1 0 (p+1) with
  | error f=>rw [g1] at h;simp at h
  | ok y1 =>
   obtain ⟨n1,q1⟩:=y1
   rw [g1] at h
   dsimp only at h
   cases g2:getN bs (bZG (bs.getD p.toNat 0)).2.1 0 q1 with
   | error f=>rw [g2] at h;simp at h
   | ok y2 =>
    obtain ⟨n2,q2⟩:=y2
    rw [g2] at h
    dsimp only at h
    cases g3:getN bs (bZG (bs.getD p.toNat 0)).2.2 0 q2 with
    | error f=>rw [g3] at h;simp at h
    | ok y3 =>
     obtain ⟨n3,q3⟩:=y3
     rw [g3] at h
     simp only [Except.ok.injEq,Prod.mk.injEq] at h
     obtain ⟨rfl,rfl⟩:=h
     obtain ⟨r1,r2,r3,r4,r5⟩:=gZ8 hb (by omega) (by omega) g1
     obtain ⟨s1,s2,s3,s4,s5⟩:=gZ8 hb (by omega) (by omega) g2
     obtain ⟨t1,t2,t3,t4,t5⟩:=gZ8 hb (by omega) (by omega) g3
     have hop':1≤bs.getD p.toNat 0∧bs.getD p.toNat 0≤36:=by omega
     rw [eZS _ hop']
     refine ⟨?_,?_,?_⟩
     ·
      unfold dZa
      simp only [Bool.and_eq_true,decide_eq_true_eq]
      exact ⟨hop',r1,s1,t1⟩
     ·
      refine At.cons hp (by omega) (r2.join ?_)
      rw [←r3]
      refine s2.join ?_
      rw [←s3]
      exact t2
     ·
      simp only [List.length_cons,List.length_append]
      omega
 ·
  unfold aZ7
  by_cases hend:(bs.length:Int)≤p
  · left;rw [if_pos hend]
  rw [if_neg hend,if_neg (show ¬((bs++more).length:Int)≤p by rw [List.length_append];omega)]
  have hg:(bs++more).getD p.toNat 0=bs.getD p.toNat 0:=by
   rw [List.getD_eq_getElem?_getD,List.getD_eq_getElem?_getD,List.getElem?_append_left (by omega)]
  rw [hg]
  by_cases hop:bs.getD p.toNat 0<1∨36<bs.getD p.toNat 0
  · right;rw [if_pos hop,if_pos hop]
  rw [if_neg hop,if_neg hop]
  simp only [aZK]
  have fw:∀ b d q y q2,getN bs b d q=.ok (y,q2)→q≤q2:=fun b d q y q2 h=>by
   unfold getN at h
   split at h
   · have:=aZs h;omega
   · simp only [Except.ok.injEq,Prod.mk.injEq] at h;omega
  rcases getN_x bs more (bZG (bs.getD p.toNat 0)).1 0 (p+1) (by omega) with h|h
  · left;rw [h]
  rw [h]
  cases g1:getN bs (bZG (bs.getD p.toNat 0)).1 0 (p+1) with
  | error f=>exact .inr rfl
  | ok y1 =>
   obtain ⟨n1,q1⟩:=y1
   have:=fw _ _ _ _ _ g1
   dsimp only
   rcases getN_x bs more (bZG (bs.getD p.toNat 0)).2.1 0 q1 (by omega) with h|h
   · left;rw [h]
   rw [h]
   cases g2:getN bs (bZG (bs.getD p.toNat 0)).2.1 0 q1 with
   | error f=>exact .inr rfl
   | ok y2 =>
    obtain ⟨n2,q2⟩:=y2
    have:=fw _ _ _ _ _ g2
    dsimp only
    rcases getN_x bs more (bZG (bs.getD p.toNat 0)).2.2 0 q2 (by omega) with h|h
    · left;rw [h]
    rw [h]
    exact .inr rfl
theorem hZJ (bs:List Int):∀ (l:List S66) (q:Int) (acc:List S66),l.all dZa=true→At bs q ((l.map aZV).flatten)→cZo bs l.length q acc=.ok (acc++l,q+((l.map aZV).flatten).length)
  | [],q,acc,_,_=>by simp [cZo]
  | x :: l,q,acc,hr,hA=>by
    rw [List.all_cons,Bool.and_eq_true] at hr
    rw [List.map_cons,List.flatten_cons] at hA ⊢
    obtain ⟨a1,a2⟩:=hA.split
    rw [List.length_cons,cZo,instr_code.rt bs q x hr.1 a1]
    dsimp only
    rw [hZJ bs l _ (acc++[x]) hr.2 a2]
    congr 2
    · simp
    · rw [List.length_append]
      omega
theorem hZK (bs:List Int) (hb:bZ9 bs):∀ (d:Nat) (q:Int) (acc r:List S66) (q2:Int),0≤q→q≤bs.length→cZo bs d q acc=.ok (r,q2) →
    ∃ l,r=acc++l∧l.length=d∧l.all dZa=true∧At bs q ((l.map aZV).flatten)∧q2=q+((l.map aZV).flatten).length
  | 0,q,acc,r,q2,h0,hl,h=>by
    rw [cZo] at h
    simp only [Except.ok.injEq,Prod.mk.injEq] at h
    exact ⟨[],by simp [h.1],rfl,rfl,At.nil h0 hl,by simp [h.2]⟩
  | d+1,q,acc,r,q2,h0,hl,h=>by
    rw [cZo] at h
    cases ho:aZ7 bs q with
    | error f=>rw [ho] at h;simp at h
    | ok xq =>
      obtain ⟨x,q1⟩:=xq
      rw [ho] at h
      dsimp only at h
      obtain ⟨o1,o2,o3⟩:=instr_code.of bs q x q1 hb h0 ho
      have ha:=eZi bs q x q1 h0 ho
      obtain ⟨l,l1,l2,l3,l4,l5⟩:=hZK bs hb d q1 (acc++[x]) r q2 (by omega) ha.2 h
      refine ⟨x :: l,by simp [l1],by simp [l2],by rw [List.all_cons,o1,l3];rfl,?_,?_⟩
      · rw [List.map_cons,List.flatten_cons]
        exact o2.join (by rw [←o3];exact l4)
      · rw [List.map_cons,List.flatten_cons,List.length_append,l5]
        omega
theorem headL_rt (bs:List Int) (h:At bs 0 [66,82,84,1]):bZ6 bs 4 0=none:=by
  obtain ⟨a0,a1,_,h⟩:=h.head
  obtain ⟨b0,b1,_,h⟩:=h.head
  obtain ⟨c0,c1,_,h⟩:=h.head
  obtain ⟨d0,d1,_,_⟩:=h.head
  have e0:bs.getD 0 0=66:=a0
  have e1:bs.getD 1 0=82:=b0
  have e2:bs.getD 2 0=84:=c0
  have e3:bs.getD 3 0=1:=d0
  unfold bZ6
  rw [if_neg (by omega),e0,if_neg (by decide)]
  unfold bZ6
  rw [if_neg (by omega),e1,if_neg (by decide)]
  unfold bZ6
  rw [if_neg (by omega),e2,if_neg (by decide)]
  unfold bZ6
  rw [if_neg (by omega),e3,if_neg (by decide)]
  rfl
theorem headL_of (bs:List Int) (h:bZ6 bs 4 0=none):At bs 0 [66,82,84,1]:=by
 have st:∀ d i,bZ6 bs (d+1) i=none→i<bs.length∧bs.getD i 0=eZk i∧bZ6 bs d (i+1)=none:=by
  intro d i hh
  rw [bZ6] at hh
  by_cases h1:bs.length≤i
  · rw [if_pos h1] at hh;cases hh
  rw [if_neg h1] at hh
  by_cases h2:bs.getD i 0≠eZk i
  · rw [if_pos h2] at hh;cases hh
  rw [if_neg h2] at hh
  exact ⟨by omega,Classical.not_not.1 h2,hh⟩
 obtain ⟨a1,a2,h⟩:=st 3 0 h
 obtain ⟨b1,b2,h⟩:=st 2 1 h
 obtain ⟨c1,c2,h⟩:=st 1 2 h
 obtain ⟨d1,d2,_⟩:=st 0 3 h
 have s4:At bs ((0:Int)+1+1+1+1) []:=At.nil (by omega) (by omega)
 have s3:=At.cons (bs:=bs) (p:=(0:Int)+1+1+1) (by omega) (by omega) s4
 have s2:=At.cons (bs:=bs) (p:=(0:Int)+1+1) (by omega) (by omega) s3
 have s1:=At.cons (bs:=bs) (p:=(0:Int)+1) (by omega) (by omega) s2
 have s0:=At.cons (bs:=bs) (p:=(0:Int)) (by omega) (by omega) s1
 have e0:bs.getD (0:Int).toNat 0=66:=a2
 have e1:bs.getD ((0:Int)+1).toNat 0=82:=b2
 have e2:bs.getD ((0:Int)+1+1).toNat 0=84:=c2
 have e3:bs.getD ((0:Int)+1+1+1).toNat 0=1:=d2
 rw [e0,e1,e2,e3] at s0
 exact s0
theorem T_code (hi:Int) (hhi:hi≤4096):Code1 (fun bs p=>aZQ ByteArray.empty (bZh bs) cmpS bs p 0 hi) (aZp aZ1) (fun l=>(0:Int)≤l.length∧(l.length:Int)≤hi∧aZW cmpS okS none l=true):=cZC text_codeB aZ8 0 hi (by omega) (by omega)
theorem N_code (hi:Int) (hhi:hi≤4096):Code1 (fun bs p=>aZQ 0 (numF bs) cmpI bs p 0 hi) (aZp bZR) (fun l=>(0:Int)≤l.length∧(l.length:Int)≤hi∧aZW cmpI okI none l=true):=cZC num_codeB bZp 0 hi (by omega) (by omega)
theorem S_code (hi:Int) (hhi:hi≤4096):Code1 (fun bs p=>aZQ [] (bZc bs) (cmpL cmpS) bs p 0 hi) (aZp (aZp aZ1)) (fun l=>(0:Int)≤l.length∧(l.length:Int)≤hi∧aZW (cmpL cmpS) okSS none l=true):=cZC texts_codeB dZ9 0 hi (by omega) (by omega)
theorem M_code (hi:Int) (hhi:hi≤4096):Code1 (fun bs p=>aZQ [] (bZt bs) (cmpL cmpI) bs p 0 hi) (aZp (aZp bZR)) (fun l=>(0:Int)≤l.length∧(l.length:Int)≤hi∧aZW (cmpL cmpI) okII none l=true):=cZC nums_codeB eZE 0 hi (by omega) (by omega)
theorem eZN (g:Pg):bZ7 g=true↔g.T.length+g.N.length+g.S.length+g.M.length≤4096∧g.C.length≤32768∧(0≤g.dep∧g.dep≤128∧0≤g.loc∧g.loc≤1024)∧aZW cmpS okS none g.T=true∧aZW cmpI okI none g.N=true∧aZW (cmpL cmpS) okSS none g.S=true∧aZW (cmpL cmpI) okII none g.M=true∧g.C.all dZa=true:=by
  unfold bZ7
  simp only [Bool.and_eq_true,decide_eq_true_eq]
theorem hZc (g:Pg):encP g=[66,82,84,1]++(aZL g.dep++(aZL g.loc++(aZp aZ1 g.T++(aZp bZR g.N++(aZp (aZp aZ1) g.S++(aZp (aZp bZR) g.M++aZp aZV g.C)))))):=by
  unfold encP
  simp only [List.append_assoc]
theorem gZh (g:Pg) (hg:bZ7 g=true) (bs:List Int) (hA:At bs 0 (encP g)):aZJ bs=pEnd bs g (encP g).length:=by
  obtain ⟨h1,h2,⟨d1,d2,d3,d4⟩,hT,hN,hS,hM,hC⟩:=(eZN g).1 hg
  rw [hZc] at hA ⊢
  obtain ⟨aH,hA⟩:=hA.split
  obtain ⟨aD,hA⟩:=hA.split
  obtain ⟨aL,hA⟩:=hA.split
  obtain ⟨aT,hA⟩:=hA.split
  obtain ⟨aN,hA⟩:=hA.split
  obtain ⟨aS,hA⟩:=hA.split
  obtain ⟨aM,aC⟩:=hA.split
  have e4:(0:Int)+([66,82,84,1]:List Int).length=4:=rfl
  rw [e4] at aD aL aT aN aS aM aC
  rw [show aZp aZV g.C=aZL g.C.length++(g.C.map aZV).flatten from rfl] at aC
  obtain ⟨aK,aC⟩:=aC.split
  unfold aZJ
  rw [headL_rt bs aH]
  dsimp only
  unfold pDep
  rw [bZ3 d1 (by omega) d1 d2 aD]
  dsimp only
  unfold pLoc
  rw [bZ3 d3 (by omega) d3 d4 aL]
  dsimp only
  unfold pT
  rw [(T_code 4096 (by omega)).rt bs _ g.T ⟨by omega,by omega,hT⟩ aT]
  dsimp only
  unfold pN
  rw [(N_code (4096 - g.T.length) (by omega)).rt bs _ g.N ⟨by omega,by omega,hN⟩ aN]
  dsimp only
  unfold pS
  rw [(S_code (4096 - g.T.length - g.N.length) (by omega)).rt bs _ g.S ⟨by omega,by omega,hS⟩ aS]
  dsimp only
  unfold pM
  rw [(M_code (4096 - g.T.length - g.N.length - g.S.length) (by omega)).rt bs _ g.M ⟨by omega,by omega,hM⟩ aM]
  dsimp only
  unfold dZ1
  rw [bZ3 (by omega) (by omega) (by omega) (by omega) aK]
  dsimp only
  unfold dZn
  rw [Int.toNat_natCast,hZJ bs g.C _ [] hC aC]
  dsimp only
  rw [List.nil_append]
  congr 1
  show _=(([66,82,84,1]++(aZL g.dep++(aZL g.loc++(aZp aZ1 g.T++(aZp bZR g.N++(aZp (aZp aZ1) g.S++(aZp (aZp bZR) g.M++(aZL g.C.length++(g.C.map aZV).flatten))))))):List Int).length:Int)
  simp only [List.length_append,List.length_cons,List.length_nil]
  omega
theorem dZh (bs:List Int) (hb:bZ9 bs) (g:Pg) (q:Int) (h:aZJ bs=.ok (g,q)):bZ7 g=true∧bs=encP g:=by
 unfold aZJ at h
 cases h0:bZ6 bs 4 0 with
 | some f=>rw [h0] at h;simp at h
 | none =>
 rw [h0] at h
 have aH:=headL_of bs h0
 have lH:=aH.le
 dsimp only at h
 unfold pDep at h
 cases h1:aZn bs 4 0 128 with
 | error f=>rw [h1] at h;simp at h
 | ok x1 =>
 obtain ⟨dep,q1⟩:=x1
 rw [h1] at h
 obtain ⟨d0,d1,d2,aD,e1⟩:=cZn hb (by omega) h1
 have n1:=aZs h1
 dsimp only at h
 unfold pLoc at h
 cases h2:aZn bs q1 0 1024 with
 | error f=>rw [h2] at h;simp at h
 | ok x2 =>
 obtain ⟨loc,q2⟩:=x2
 rw [h2] at h
 obtain ⟨l0,l1,l2,aL,e2⟩:=cZn hb (by omega) h2
 have n2:=aZs h2
 dsimp only at h
 unfold pT at h
 cases h3:aZQ ByteArray.empty (bZh bs) cmpS bs q2 0 4096 with
 | error f=>rw [h3] at h;simp at h
 | ok x3 =>
 obtain ⟨T,q3⟩:=x3
 rw [h3] at h
 obtain ⟨⟨t0,t1,t2⟩,aT,e3⟩:=(T_code 4096 (by omega)).of bs q2 T q3 hb (by omega) h3
 have n3:=bZ0 (aZ8 bs) (by omega) (by omega) h3
 dsimp only at h
 unfold pN at h
 cases h4:aZQ 0 (numF bs) cmpI bs q3 0 (4096 - T.length) with
 | error f=>rw [h4] at h;simp at h
 | ok x4 =>
 obtain ⟨N,q4⟩:=x4
 rw [h4] at h
 obtain ⟨⟨u0,u1,u2⟩,aN,e4⟩:=(N_code (4096 - T.length) (by omega)).of bs q3 N q4 hb (by omega) h4
 have n4:=bZ0 (bZp bs) (by omega) (by omega) h4
 dsimp only at h
 unfold pS at h
 cases h5:aZQ [] (bZc bs) (cmpL cmpS) bs q4 0 (4096 - T.length - N.length) with
 | error f=>rw [h5] at h;simp at h
 | ok x5 =>
 obtain ⟨S,q5⟩:=x5
 rw [h5] at h
 obtain ⟨⟨v0,v1,v2⟩,aS,e5⟩:=(S_code (4096 - T.length - N.length) (by omega)).of bs q4 S q5 hb (by omega) h5
 have n5:=bZ0 (dZ9 bs) (by omega) (by omega) h5
 dsimp only at h
 unfold pM at h
 cases h6:aZQ [] (bZt bs) (cmpL cmpI) bs q5 0 (4096 - T.length - N.length - S.length) with
 | error f=>rw [h6] at h;simp at h
 | ok x6 =>
 obtain ⟨M,q6⟩:=x6
 rw [h6] at h
 obtain ⟨⟨w0,w1,w2⟩,aM,e6⟩:=(M_code (4096 - T.length - N.length - S.length) (by omega)).of bs q5 M q6 hb (by omega) h6
 have n6:=bZ0 (eZE bs) (by omega) (by omega) h6
 dsimp only at h
 unfold dZ1 at h
 cases h7:aZn bs q6 0 32768 with
 | error f=>rw [h7] at h;simp at h
 | ok x7 =>
 obtain ⟨k,q7⟩:=x7
 rw [h7] at h
 obtain ⟨k0,k1,k2,aK,e7⟩:=cZn hb (by omega) h7
 have n7:=aZs h7
 dsimp only at h
 unfold dZn at h
 cases h8:cZo bs k.toNat q7 [] with
 | error f=>rw [h8] at h;simp at h
 | ok x8 =>
 obtain ⟨C,q8⟩:=x8
 rw [h8] at h
 obtain ⟨C2,c1,c2,c3,aC,e8⟩:=hZK bs hb k.toNat q7 [] C q8 (by omega) (by omega) h8
 rw [List.nil_append] at c1
 subst c1
 have ek:(C.length:Int)=k:=by omega
 dsimp only at h
 unfold pEnd at h
 by_cases hr:q8<bs.length
 · rw [if_pos hr] at h;simp at h
 rw [if_neg hr] at h
 simp only [Except.ok.injEq,Prod.mk.injEq] at h
 obtain ⟨rfl,rfl⟩:=h
 refine ⟨(eZN _).2 ⟨by dsimp only;omega,by dsimp only;omega,⟨d1,d2,l1,l2⟩,t2,u2,v2,w2,c3⟩,?_⟩
 have aCode:At bs q6 (aZp aZV C):=by
  unfold aZp
  rw [ek]
  exact aK.join (by rw [←e7];exact aC)
 have hA:At bs 0 (encP ⟨T,N,S,M,C,dep,loc⟩):=by
  rw [hZc]
  refine aH.join ?_
  refine aD.join ?_
  rw [←e1]
  refine aL.join ?_
  rw [←e2]
  refine aT.join ?_
  rw [←e3]
  refine aN.join ?_
  rw [←e4]
  refine aS.join ?_
  rw [←e5]
  refine aM.join ?_
  rw [←e6]
  exact aCode
 obtain ⟨pre,post,e,hp⟩:=hA
 have hpre:pre=[]:=List.eq_nil_of_length_eq_zero (by omega)
 subst hpre
 have hlen:((encP ⟨T,N,S,M,C,dep,loc⟩).length:Int)=q8:=by
  rw [hZc]
  show (([66,82,84,1]++(aZL dep++(aZL loc++(aZp aZ1 T++(aZp bZR N++(aZp (aZp aZ1) S++(aZp (aZp bZR) M++(aZL C.length++(C.map aZV).flatten))))))):List Int).length:Int)=q8
  rw [ek]
  simp only [List.length_append,List.length_cons,List.length_nil]
  omega
 have hpost:post=[]:=by
  have:=congrArg List.length e
  simp only [List.length_append,List.length_nil] at this
  exact List.eq_nil_of_length_eq_zero (by omega)
 subst hpost
 rw [e]
 simp
theorem hZ0 (g:Pg) (hg:bZ7 g=true):aZJ (encP g)=.ok (g,((encP g).length:Int)):=by
  rw [gZh g hg (encP g) ⟨[],[],by simp,rfl⟩]
  unfold pEnd
  rw [if_neg (by omega)]
def eZj {α:Type} (eq lt:α→α→Bool):List α→List α→Bool
  | [],[]=>false
  | [],_ :: _=>true
  | _ :: _,[]=>false
  | x :: xs,y :: ys=>if eq x y=true then eZj eq lt xs ys else lt x y
def eqS (a b:ByteArray):Bool:=a.toList == b.toList
def ltS (a b:ByteArray):Bool:=Op.bytesLess a.toList b.toList
theorem bZS (i n:Nat) (h:i<n) (hn:n≤9223372036854775807):wrap64 ((i:Int)+1)=((i+1:Nat):Int):=by rw [bZT _ (by omega) (by omega)];omega
theorem lessS_l (a b:List ByteArray) (ha:a.length≤9223372036854775807):∀ (d i k:Nat),a.length - i=d→2*d+2≤k→i≤a.length→i≤b.length→berthref20_LessTexts.l0 k a b i=some (eZj eqS ltS (a.drop i) (b.drop i)):=by
 intro d
 induction d with
 | zero =>
  intro i k hd hk h0 h1
  obtain ⟨k,rfl⟩:∃ m,k=m+2:=⟨k - 2,by omega⟩
  unfold berthref20_LessTexts.l0
  rw [if_neg (by omega)]
  unfold berthref20_LessTexts.j1
  rw [if_neg (by decide),List.drop_eq_nil_of_le (by omega:a.length≤i)]
  by_cases hb:i<b.length
  ·
   rw [List.drop_eq_getElem_cons hb,decide_eq_true (by omega)]
   rfl
  ·
   rw [List.drop_eq_nil_of_le (by omega:b.length≤i),decide_eq_false (by omega)]
   rfl
 | succ d ih =>
  intro i k hd hk h0 h1
  obtain ⟨k,rfl⟩:∃ m,k=m+2:=⟨k - 2,by omega⟩
  have hlt:i<a.length:=by omega
  unfold berthref20_LessTexts.l0
  rw [if_pos (by omega),List.drop_eq_getElem_cons hlt]
  by_cases hb:i<b.length
  ·
   rw [decide_eq_true (by omega:(i:Int)<(b.length:Int)),List.drop_eq_getElem_cons hb]
   unfold berthref20_LessTexts.j1
   have IH:=ih (i+1) k (by omega) (by omega) (by omega) (by omega)
   clear ih
   rw [if_pos rfl,if_pos (Int.natCast_nonneg _),if_pos (Int.ofNat_lt.2 hlt),if_pos (Int.ofNat_lt.2 hb),show rdOf ByteArray.empty a (i:Int)=a[i] by simp [rdOf,hlt],show rdOf ByteArray.empty b (i:Int)=b[i] by simp [rdOf,hb],bZS i _ hlt ha]
   unfold eZj
   by_cases he:a[i].toList=b[i].toList
   · rw [if_pos he,if_pos (by simp [eqS,he]),IH]
   ·
    rw [if_neg he,if_neg (by simpa [eqS] using he)]
    rfl
  ·
   rw [decide_eq_false (by omega:¬(i:Int)<(b.length:Int)),List.drop_eq_nil_of_le (by omega:b.length≤i)]
   unfold berthref20_LessTexts.j1
   rw [if_neg (by decide),decide_eq_false (by omega)]
   rfl
def eqI (a b:Int):Bool:=a == b
def ltI (a b:Int):Bool:=decide (a<b)
theorem lessI_l (a b:List Int) (ha:a.length≤9223372036854775807):∀ (d i k:Nat),a.length - i=d→2*d+2≤k→i≤a.length→i≤b.length→berthref20_LessNums.l0 k a b i=some (eZj eqI ltI (a.drop i) (b.drop i)):=by
 intro d
 induction d with
 | zero =>
  intro i k hd hk h0 h1
  obtain ⟨k,rfl⟩:∃ m,k=m+2:=⟨k - 2,by omega⟩
  unfold berthref20_LessNums.l0
  rw [if_neg (by omega)]
  unfold berthref20_LessNums.j1
  rw [if_neg (by decide),List.drop_eq_nil_of_le (by omega:a.length≤i)]
  by_cases hb:i<b.length
  ·
   rw [List.drop_eq_getElem_cons hb,decide_eq_true (by omega)]
   rfl
  ·
   rw [List.drop_eq_nil_of_le (by omega:b.length≤i),decide_eq_false (by omega)]
   rfl
 | succ d ih =>
  intro i k hd hk h0 h1
  obtain ⟨k,rfl⟩:∃ m,k=m+2:=⟨k - 2,by omega⟩
  have hlt:i<a.length:=by omega
  unfold berthref20_LessNums.l0
  rw [if_pos (by omega),List.drop_eq_getElem_cons hlt]
  by_cases hb:i<b.length
  ·
   rw [decide_eq_true (by omega:(i:Int)<(b.length:Int)),List.drop_eq_getElem_cons hb]
   unfold berthref20_LessNums.j1
   have IH:=ih (i+1) k (by omega) (by omega) (by omega) (by omega)
   clear ih
   rw [if_pos rfl,if_pos (Int.natCast_nonneg _),if_pos (Int.ofNat_lt.2 hlt),if_pos (Int.ofNat_lt.2 hb),show rd a (i:Int)=a[i] by simp [rd,hlt],show rd b (i:Int)=b[i] by simp [rd,hb],bZS i _ hlt ha]
   unfold eZj
   by_cases he:a[i]=b[i]
   · rw [if_pos he,if_pos (by simp [eqI,he]),IH]
   ·
    rw [if_neg he,if_neg (by simpa [eqI] using he)]
    rfl
  ·
   rw [decide_eq_false (by omega:¬(i:Int)<(b.length:Int)),List.drop_eq_nil_of_le (by omega:b.length≤i)]
   unfold berthref20_LessNums.j1
   rw [if_neg (by decide),decide_eq_false (by omega)]
   rfl
def Res {α:Type} (n:Int) (p:Int) (r:Except (Int × Int) (α × Int)):Prop:=(∀ k q,r=.error (k,q)→200≤k∧k≤206∧0≤q∧q≤n)∧(∀ x q,r=.ok (x,q)→p≤q∧q≤n)
theorem Res.err {α:Type} {n p k q:Int} (h:200≤k∧k≤206∧0≤q∧q≤n):Res (α:=α) n p (.error (k,q)) :=
  ⟨fun k2 q2 h2=>by simp only [Except.error.injEq,Prod.mk.injEq] at h2;obtain ⟨rfl,rfl⟩:=h2;exact h,fun x q h=>by cases h⟩
theorem Res.ok {α:Type} {n p q:Int} {x:α} (h:p≤q∧q≤n):Res n p (.ok (x,q)) :=
  ⟨(fun k2 q2 h2=>by cases h2),fun y q2 h2=>by simp only [Except.ok.injEq,Prod.mk.injEq] at h2;obtain ⟨rfl,rfl⟩:=h2;exact h⟩
theorem Res.lower {α:Type} {n p p2:Int} {r:Except (Int × Int) (α × Int)} (h:Res n p r) (hp:p2≤p):Res n p2 r:=⟨h.1,fun x q hx=>by have:=h.2 x q hx;omega⟩
def Tame {α:Type} (n:Int) (f:Int→Except (Int × Int) (α × Int)):Prop:=∀ p,0≤p→p≤n→Res n p (f p)
theorem Tame.bind {α β:Type} {n:Int} {f:Int→Except (Int × Int) (α × Int)} {g:α→Int→Except (Int × Int) (β × Int)} (hf:Tame n f) (hg:∀ x,Tame n (g x)) {F:Int→Except (Int × Int) (β × Int)} (hE:∀ p e,f p=.error e→F p=.error e) (hO:∀ p x q,f p=.ok (x,q)→F p=g x q):Tame n F:=by
  intro p h0 h1
  have h:=hf p h0 h1
  cases hp:f p with
  | error e =>
    obtain ⟨k,q⟩:=e
    rw [hE p _ hp]
    exact Res.err (h.1 k q hp)
  | ok xq =>
    obtain ⟨x,q⟩:=xq
    have:=h.2 x q hp
    rw [hO p _ _ hp]
    exact (hg x q (by omega) (by omega)).lower this.1
theorem hZf (bs:List Int) (frm lo hi:Int) (hfr:0≤frm∧frm≤bs.length):∀ (f i:Nat) (p n:Int),f+i=9→1≤f→0≤p→p≤bs.length→Res bs.length p (bZQ bs frm lo hi f i p n):=by
 intro f
 induction f with
 | zero=>intro i p n _ h;omega
 | succ f ih =>
  intro i p n hfi _ h0 h1
  unfold bZQ
  split
  · exact Res.err (by omega)
  ·
   split
   · exact Res.err (by omega)
   ·
    split
    ·
     next h8 h128 =>
     have:i≠8:=fun h=>h8 ⟨h,h128⟩
     exact (ih (i+1) (p+1) _ (by omega) (by omega) (by omega) (by omega)).lower (by omega)
    ·
     split
     · exact Res.err (by omega)
     ·
      split
      · exact Res.err (by omega)
      · exact Res.ok (by omega)
theorem aZu (bs:List Int) (lo hi:Int):Tame bs.length (fun p=>aZn bs p lo hi):=fun p h0 h1=>hZf bs p lo hi ⟨h0,h1⟩ 9 0 p 0 rfl (by omega) h0 h1
theorem countF_lo {bs:List Int} {p lo hi n q:Int} (h:aZn bs p lo hi=.ok (n,q)) (hlo:0≤lo):0≤n:=by
  have:=aZs h
  omega
theorem cZB (bs:List Int):Tame bs.length (numF bs):=(aZu bs 0 2000000000000000000).bind (g:=fun n q=>.ok (if n % 2=1 then -(n / 2) - 1 else n / 2,q)) (fun n q h0 h1=>Res.ok ⟨Int.le_refl _,h1⟩) (by intro p e h;simp only [numF,h]) (by intro p x q h;simp only [numF,h])
theorem cZd (bs:List Int):Tame bs.length (bZh bs):=by
 intro p h0 h1
 have h:=aZu bs 0 127 p h0 h1
 dsimp only at h
 unfold bZh
 cases hc:aZn bs p 0 127 with
 | error e =>
  obtain ⟨k,q⟩:=e
  exact Res.err (h.1 k q hc)
 | ok xq =>
  obtain ⟨n,q⟩:=xq
  have h2:=h.2 n q hc
  have h3:=countF_lo hc (by omega)
  dsimp only
  split
  · exact Res.err (by omega)
  · exact Res.ok (by omega)
theorem cZD {α:Type} (z:α) {n:Int} {one:Int→Except (Int × Int) (α × Int)} (cmp:α→α→Int) (ho:Tame n one):∀ (d:Nat) (acc:List α),Tame n (fun q=>aZr z one cmp d q acc):=by
 intro d
 induction d with
 | zero=>intro acc q h0 h1;exact Res.ok ⟨Int.le_refl _,h1⟩
 | succ d ih =>
  intro acc q h0 h1
  have h:=ho q h0 h1
  dsimp only [aZr]
  cases hc:one q with
  | error e =>
   obtain ⟨k,q⟩:=e
   exact Res.err (h.1 k q hc)
  | ok xq =>
   obtain ⟨x,q2⟩:=xq
   have h2:=h.2 x q2 hc
   dsimp only
   split
   · exact Res.err (by omega)
   · exact (ih _ q2 (by omega) (by omega)).lower h2.1
theorem bZr {α:Type} (z:α) {bs:List Int} {one:Int→Except (Int × Int) (α × Int)} (cmp:α→α→Int) (ho:Tame bs.length one) (lo hi:Int):Tame bs.length (fun p=>aZQ z one cmp bs p lo hi) :=
  (aZu bs lo hi).bind (g:=fun n q=>aZr z one cmp n.toNat q []) (fun n=>cZD z cmp ho n.toNat []) (by intro p e h;simp only [aZQ,h]) (by intro p x q h;simp only [aZQ,h])
theorem cZg (bs:List Int):Tame bs.length (bZc bs):=bZr _ _ (cZd bs) 1 1000
theorem cZf (bs:List Int):Tame bs.length (bZt bs):=bZr _ _ (cZB bs) 1 1000
theorem eZM (bs:List Int) (b:Bool) (d:Int):Tame bs.length (getN bs b d):=by
 intro p h0 h1
 unfold getN
 split
 · exact aZu bs 0 65535 p h0 h1
 · exact Res.ok ⟨Int.le_refl _,h1⟩
theorem gZ5 (bs:List Int) (u:Bool × Bool × Bool) (op a b c:Int):Tame bs.length (aZK bs u op 0 a b c) :=
  (eZM bs u.1 a).bind (g := fun a q => aZK bs u op 1 a b c q) (fun a => (eZM bs u.2.1 b).bind (g := fun b q => aZK bs u op 2 a b c q) (fun b => (eZM bs u.2.2 c).bind (g := fun c q => .ok (⟨op, a, b, c⟩, q)) (fun c q h0 h1 => Res.ok ⟨Int.le_refl _, h1⟩) (by intro p e h; simp only [aZK, h]) (by intro p x q h; simp only [aZK, h]))
    (by intro p e h;simp only [aZK,h]) (by intro p x q h;simp only [aZK,h])) (by intro p e h;simp only [aZK,h]) (by intro p x q h;simp only [aZK,h])
theorem eZL (bs:List Int):Tame bs.length (aZ7 bs):=by
 intro p h0 h1
 unfold aZ7
 split
 · exact Res.err (by omega)
 ·
  split
  · exact Res.err (by omega)
  ·
   refine Res.lower ?_ (show p≤p+1 by omega)
   exact gZ5 bs _ _ 0 0 0 (p+1) (by omega) (by omega)
theorem fZt (bs:List Int):∀ (d:Nat) (acc:List S66),Tame bs.length (fun q=>cZo bs d q acc):=by
  intro d
  induction d with
  | zero=>intro acc q h0 h1;exact Res.ok ⟨Int.le_refl _,h1⟩
  | succ d ih =>
    intro acc
    exact (eZL bs).bind (g:=fun x q2=>cZo bs d q2 (acc++[x])) (fun x=>ih _) (by intro p e h;simp only [cZo,h]) (by intro p x q h;simp only [cZo,h])
theorem pEnd_tame (bs:List Int) (g:Pg):Tame bs.length (pEnd bs g):=by
 intro q h0 h1
 unfold pEnd
 split
 · exact Res.err (by omega)
 · exact Res.ok ⟨Int.le_refl _,h1⟩
theorem hZ1 (bs:List Int) (T:List ByteArray) (N:List Int) (S:List (List ByteArray)) (M:List (List Int)) (dep loc:Int):Tame bs.length (dZ1 bs T N S M dep loc) :=
  (aZu bs 0 32768).bind (g:=fun n q=>dZn bs T N S M dep loc n.toNat q []) (fun n=>(fZt bs n.toNat []).bind (g:=fun C q=>pEnd bs ⟨T,N,S,M,C,dep,loc⟩ q) (fun C=>pEnd_tame bs _) (by intro p e h;simp only [dZn,h]) (by intro p x q h;simp only [dZn,h])) (by intro p e h;simp only [dZ1,h]) (by intro p x q h;simp only [dZ1,h])
theorem pM_tame (bs:List Int) (T:List ByteArray) (N:List Int) (S:List (List ByteArray)) (dep loc:Int):Tame bs.length (pM bs T N S dep loc) :=
  (bZr [] (cmpL cmpI) (cZf bs) 0 (4096 - T.length - N.length - S.length)).bind (g:=fun M q=>dZ1 bs T N S M dep loc q) (fun M=>hZ1 bs T N S M dep loc) (by intro p e h;simp only [pM,h]) (by intro p x q h;simp only [pM,h])
theorem pS_tame (bs:List Int) (T:List ByteArray) (N:List Int) (dep loc:Int):Tame bs.length (pS bs T N dep loc) :=
  (bZr [] (cmpL cmpS) (cZg bs) 0 (4096 - T.length - N.length)).bind (g:=fun S q=>pM bs T N S dep loc q) (fun S=>pM_tame bs T N S dep loc) (by intro p e h;simp only [pS,h]) (by intro p x q h;simp only [pS,h])
theorem pN_tame (bs:List Int) (T:List ByteArray) (dep loc:Int):Tame bs.length (pN bs T dep loc) :=
  (bZr 0 cmpI (cZB bs) 0 (4096 - T.length)).bind (g:=fun N q=>pS bs T N dep loc q) (fun N=>pS_tame bs T N dep loc) (by intro p e h;simp only [pN,h]) (by intro p x q h;simp only [pN,h])
theorem pT_tame (bs:List Int) (dep loc:Int):Tame bs.length (pT bs dep loc) :=
  (bZr ByteArray.empty cmpS (cZd bs) 0 4096).bind (g:=fun T q=>pN bs T dep loc q) (fun T=>pN_tame bs T dep loc) (by intro p e h;simp only [pT,h]) (by intro p x q h;simp only [pT,h])
theorem pDep_tame (bs:List Int):Tame bs.length (pDep bs) :=
  (aZu bs 0 128).bind (g:=fun dep q=>pLoc bs dep q) (fun dep=>(aZu bs 0 1024).bind (g:=fun loc q=>pT bs dep loc q) (fun loc=>pT_tame bs dep loc) (by intro p e h;simp only [pLoc,h]) (by intro p x q h;simp only [pLoc,h])) (by intro p e h;simp only [pDep,h]) (by intro p x q h;simp only [pDep,h])
theorem dZ5 (bs:List Int):∀ (d i:Nat) (k q:Int),bZ6 bs d i=some (k,q)→200≤k∧k≤206∧0≤q∧q≤bs.length:=by
 intro d
 induction d with
 | zero=>intro i k q h;cases h
 | succ d ih =>
  intro i k q h
  unfold bZ6 at h
  split at h
  · simp only [Option.some.injEq,Prod.mk.injEq] at h;omega
  ·
   split at h
   · simp only [Option.some.injEq,Prod.mk.injEq] at h;omega
   · exact ih _ k q h
theorem gZx (bs:List Int):∀ (d i:Nat),bZ6 bs d i=none→0<d→d+i≤bs.length:=by
 intro d
 induction d with
 | zero=>intro i _ h;omega
 | succ d ih =>
  intro i h _
  unfold bZ6 at h
  split at h
  · cases h
  ·
   split at h
   · cases h
   ·
    by_cases hd:0<d
    · have:=ih _ h hd;omega
    · omega
theorem gZV (bs:List Int) (k q:Int) (h:aZJ bs=.error (k,q)):200≤k∧k≤206∧0≤q∧q≤bs.length:=by
  unfold aZJ at h
  cases hh:bZ6 bs 4 0 with
  | some f =>
    obtain ⟨k2,q2⟩:=f
    rw [hh] at h
    simp only [Except.error.injEq,Prod.mk.injEq] at h
    obtain ⟨rfl,rfl⟩:=h
    exact dZ5 bs 4 0 _ _ hh
  | none =>
    rw [hh] at h
    have:=gZx bs 4 0 hh (by omega)
    exact (pDep_tame bs 4 (by omega) (by omega)).1 k q h
theorem cmpS_lt (a b:ByteArray):(Op.bytesLess a.toList b.toList=true)↔¬ 0≤cmpS a b:=by
 unfold cmpS
 split
 · next h=>simp [h]
 · next h=>split <;> simp [h]
theorem eZJ {α:Type} (eq lt:α→α→Bool) (cmp:α→α→Int) (he:∀ x y,eq x y=true↔cmp x y=0) (hl:∀ x y,lt x y=true↔cmp x y<0):∀ a b:List α,eZj eq lt a b=!decide (0≤cmpL cmp a b)
  | [],[]=>by simp [eZj,cmpL]
  | [],_ :: _=>by simp [eZj,cmpL]
  | _ :: _,[]=>by simp [eZj,cmpL]
  | x :: xs,y :: ys=>by
    unfold eZj cmpL
    by_cases h:cmp x y=0
    · rw [if_pos ((he x y).2 h),if_pos h,eZJ eq lt cmp he hl xs ys]
    · rw [if_neg (fun hh=>h ((he x y).1 hh)),if_neg h]
      by_cases h2:cmp x y<0
      · rw [(hl x y).2 h2,decide_eq_false (by omega)]
        rfl
      · rw [decide_eq_true (by omega)]
        cases h3:lt x y
        · rfl
        · exact absurd ((hl x y).1 h3) h2
theorem lessS_cmp (a b : List ByteArray) : eZj eqS ltS a b = !decide (0 ≤ cmpL cmpS a b) := eZJ _ _ _ (fun x y => by
 unfold eqS cmpS
 rw [beq_iff_eq]
 have ht:=Go.Proofs.YtbnplhmmbnmagaaX.bl_total x.toList y.toList
 constructor
 ·
  intro h
  rw [h]
  have:Op.bytesLess y.toList y.toList=false:=by
   have h2:=Go.Proofs.YtbnplhmmbnmagaaX.bl_total y.toList y.toList
   rw [beq_self_eq_true,Bool.or_true] at h2
   cases h3:Op.bytesLess y.toList y.toList
   · rfl
   · rw [h3] at h2;cases h2
  simp [this]
 ·
  intro h
  by_cases h1:Op.bytesLess x.toList y.toList=true
  · rw [if_pos h1] at h;cases h
  ·
   by_cases h2:Op.bytesLess y.toList x.toList=true
   · rw [if_neg h1,if_pos h2] at h;cases h
   ·
    rw [eq_false_of_ne_true h1,eq_false_of_ne_true h2] at ht
    simpa using ht) (fun x y => by
 unfold ltS
 rw [cmpS_lt]
 omega) a b
theorem lessI_cmp (a b : List Int) : eZj eqI ltI a b = !decide (0 ≤ cmpL cmpI a b) := eZJ _ _ _ (fun x y => by
    unfold eqI cmpI
    rw [beq_iff_eq]
    split <;> (try split) <;> omega) (fun x y => by
    unfold ltI cmpI
    rw [decide_eq_true_eq]
    split <;> (try split) <;> omega) a b
theorem lessS_any (w:World) (A B:Option Addr) (c d:Nat) (a b:List ByteArray) (ha:Kd.C Kd.string w A a.length a) (hc:a.length≤c) (hb:Kd.C Kd.string w B b.length b) (hd:b.length≤d) (hl:a.length≤9223372036854775807):Calls Try.prog 67 #[.slice A a.length c,.slice B b.length d] w fun e w'=>e=.returned (.bool (!decide (0≤cmpL cmpS a b)))∧Drawn0 w w' :=
  berthref20_LessTexts.calls (2 * a.length + 2) A c a B d b _ w ha hc hb hd (by
    have h:=lessS_l a b (by omega) a.length 0 (2*a.length+2) (by omega) (by omega) (by omega) (by omega)
    rw [List.drop_zero,List.drop_zero,lessS_cmp] at h
    exact h)
theorem gZo (w:World) (A B:Option Addr) (c d:Nat) (a b:List Int) (ha:Kd.C (Kd.int .i64) w A a.length a) (hc:a.length≤c) (hb:Kd.C (Kd.int .i64) w B b.length b) (hd:b.length≤d) (hl:a.length≤9223372036854775807):Calls Try.prog 68 #[.slice A a.length c,.slice B b.length d] w fun e w'=>e=.returned (.bool (!decide (0≤cmpL cmpI a b)))∧Drawn0 w w' :=
  berthref20_LessNums.calls (2 * a.length + 2) A c a B d b _ w ha hc hb hd (by
    have h:=lessI_l a b (by omega) a.length 0 (2*a.length+2) (by omega) (by omega) (by omega) (by omega)
    rw [List.drop_zero,List.drop_zero,lessI_cmp] at h
    exact h)
theorem usesRef:∀ n:_root_.Fin 36,berthref20_Uses.f 5 ((n.1:Int)+1)=some (bZG ((n.1:Int)+1)):=by decide
theorem uses_any (w:World) (op:Int) (h0:1≤op) (h1:op≤36):Calls Try.prog 101 #[.int .i64 op] w fun e w'=>e=.returned (.tuple #[.bool (bZG op).1,.bool (bZG op).2.1,.bool (bZG op).2.2])∧Drawn0 w w' :=
  berthref20_Uses.calls 5 op _ _ _ w (by
    have h:=usesRef ⟨(op - 1).toNat,by omega⟩
    rw [show (((op - 1).toNat:Int)+1)=op by omega] at h
    exact h)
end Go.Proofs.Ytbnplhmmbnmagaa.D
