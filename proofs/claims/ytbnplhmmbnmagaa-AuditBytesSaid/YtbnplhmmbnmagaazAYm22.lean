/- Same, plain: it tells whether two programs are one. -/
import Derived.Test.YtbnplhmmbnmagaazAYm21
import Derived.Test.YtbnplhmmbnmagaazAYm2
import Derived.Test.YtbnplhmmbnmagaazAYm4
import Derived.Test.YtbnplhmmbnmagaazAYm3
import Derived.Test.YtbnplhmmbnmagaazAYm5
import Derived.Test.YtbnplhmmbnmagaazAYm6
import Derived.Test.YtbnplhmmbnmagaazAYm7
import Derived.Test.YtbnplhmmbnmagaazAYm8
set_option maxRecDepth 100000
set_option linter.unusedVariables false
set_option linter.unusedSimpArgs false
namespace Go.Proofs.Ytbnplhmmbnmagaa.D
open Go.RowKit Go.Proofs.YtbnplhmmbnmagaaW.PrintWords Go.Proofs.YtbnplhmmbnmagaaW.PrintLast Go.Proofs.YtbnplhmmbnmagaaW.PrintMore Go.Proofs.Ytbnplhmmbnmagaa.All
def cZE {α:Type} (eq lt:α→α→Bool):List α→List α→Bool
  | [],[]=>false
  | [],_ :: _=>true
  | _ :: _,[]=>false
  | x :: xs,y :: ys=>if eq x y=true then cZE eq lt xs ys else lt x y
def eqS (a b:ByteArray):Bool:=a.toList == b.toList
def ltS (a b:ByteArray):Bool:=Op.bytesLess a.toList b.toList
theorem str_eq {a b:ByteArray} (h:a.toList=b.toList):a=b:=by
  rw [ByteArray.toList_eq,ByteArray.toList_eq] at h
  exact ByteArray.ext (Array.toList_inj.mp h)
theorem fZA {α:Type} (eq lt:α→α→Bool) (he:∀ x y,eq x y=true↔x=y) (hlt:∀ x y,x≠y→lt x y=true∨lt y x=true):∀ a b:List α,(!cZE eq lt a b && !cZE eq lt b a)=true↔a=b
  | [],[]=>by simp [cZE]
  | [],_ :: _=>by simp [cZE]
  | _ :: _,[]=>by simp [cZE]
  | x :: xs,y :: ys=>by
    unfold cZE
    by_cases h:x=y
    · subst h
      rw [if_pos ((he x x).2 rfl),if_pos ((he x x).2 rfl),fZA eq lt he hlt xs ys]
      simp
    · rw [if_neg (fun hh=>h ((he x y).1 hh)),if_neg (fun hh=>h ((he y x).1 hh).symm)]
      have:=hlt x y h
      constructor
      · intro hh
        simp only [Bool.and_eq_true,Bool.not_eq_true'] at hh
        rcases this with h1|h1
        · rw [h1] at hh;cases hh.1
        · rw [h1] at hh;cases hh.2
      · intro hh
        injection hh with h1 _
        exact absurd h1 h
theorem eZi (i n:Nat) (h:i<n) (hn:n≤140737488351232):wrap64 ((i:Int)+1)=((i+1:Nat):Int):=by rw [bZ4 _ (by omega) (by omega)];omega
theorem bZN (i n:Nat) (h:i<n) (hn:n≤9223372036854775807):wrap64 ((i:Int)+1)=((i+1:Nat):Int):=by rw [bZ4 _ (by omega) (by omega)];omega
theorem lessS_l (a b:List ByteArray) (ha:a.length≤9223372036854775807):∀ (d i k:Nat),a.length - i=d→2*d+2≤k→i≤a.length→i≤b.length→berthref20_LessTexts.l0 k a b i=some (cZE eqS ltS (a.drop i) (b.drop i)):=by
 intro d
 induction d with
 | zero =>
  intro i k hd hk h0 h1
  obtain ⟨k,rfl⟩:∃ m,k=m+2:=⟨k - 2,by omega⟩
  unfold berthref20_LessTexts.l0
  rw [if_neg (by omega)]
  unfold berthref20_LessTexts.j1
  rw [if_neg (by decide),List.drop_eq_nil_of_le (by omega:a.length≤i)]
  by_cases hb:i<b.length
  ·
   rw [List.drop_eq_getElem_cons hb,decide_eq_true (by omega)]
   rfl
  ·
   rw [List.drop_eq_nil_of_le (by omega:b.length≤i),decide_eq_false (by omega)]
   rfl
 | succ d ih =>
  intro i k hd hk h0 h1
  obtain ⟨k,rfl⟩:∃ m,k=m+2:=⟨k - 2,by omega⟩
  have hlt:i<a.length:=by omega
  unfold berthref20_LessTexts.l0
  rw [if_pos (by omega),List.drop_eq_getElem_cons hlt]
  by_cases hb:i<b.length
  ·
   rw [decide_eq_true (by omega:(i:Int)<(b.length:Int)),List.drop_eq_getElem_cons hb]
   unfold berthref20_LessTexts.j1
   have IH:=ih (i+1) k (by omega) (by omega) (by omega) (by omega)
   clear ih
   rw [if_pos rfl,if_pos (Int.natCast_nonneg _),if_pos (Int.ofNat_lt.2 hlt),if_pos (Int.ofNat_lt.2 hb),show rdOf ByteArray.empty a (i:Int)=a[i] by simp [rdOf,hlt],show rdOf ByteArray.empty b (i:Int)=b[i] by simp [rdOf,hb],bZN i _ hlt ha]
   unfold cZE
   by_cases he:a[i].toList=b[i].toList
   · rw [if_pos he,if_pos (by simp [eqS,he]),IH]
   ·
    rw [if_neg he,if_neg (by simpa [eqS] using he)]
    rfl
  ·
   rw [decide_eq_false (by omega:¬(i:Int)<(b.length:Int)),List.drop_eq_nil_of_le (by omega:b.length≤i)]
   unfold berthref20_LessTexts.j1
   rw [if_neg (by decide),decide_eq_false (by omega)]
   rfl
theorem eZp (a b:List ByteArray) (ha:a.length≤9223372036854775807) (hb:b.length≤9223372036854775807) (k:Nat) (hk:2*a.length+2*b.length+2≤k):∃ r,berthref20_sameTexts.f k a b=some r∧(r=true↔a=b):=by
 have h1:=lessS_l a b ha a.length 0 k (by omega) (by omega) (by omega) (by omega)
 have h2:=lessS_l b a hb b.length 0 k (by omega) (by omega) (by omega) (by omega)
 rw [List.drop_zero,List.drop_zero] at h1 h2
 have hh := fZA eqS ltS (fun x y => by
  unfold eqS
  rw [beq_iff_eq]
  exact ⟨str_eq, fun h => by rw [h]⟩) (fun x y hxy => by
  have:=Go.Proofs.YtbnplhmmbnmagaaX.bl_total x.toList y.toList
  have hne:(x.toList == y.toList)=false:=by
   rw [beq_eq_false_iff_ne]
   exact fun h=>hxy (str_eq h)
  rw [hne,Bool.or_false] at this
  unfold ltS
  cases h:Op.bytesLess x.toList y.toList
  ·
   rw [h] at this
   right
   cases h2:Op.bytesLess y.toList x.toList
   · rw [h2] at this;cases this
   · rfl
  · exact .inl rfl) a b
 unfold berthref20_sameTexts.f berthref20_LessTexts.f
 rw [show (0:Int)=((0:Nat):Int) from rfl,h1,Option.bind_some,h2]
 cases hA:cZE eqS ltS a b
 ·
  rw [if_neg (by decide),Option.bind_some]
  refine ⟨_,rfl,?_⟩
  rw [←hh,hA]
  simp
 ·
  rw [if_pos rfl]
  refine ⟨_,rfl,?_⟩
  rw [←hh,hA]
  simp
def eqI (a b:Int):Bool:=a == b
def ltI (a b:Int):Bool:=decide (a<b)
theorem lessI_l (a b:List Int) (ha:a.length≤9223372036854775807):∀ (d i k:Nat),a.length - i=d→2*d+2≤k→i≤a.length→i≤b.length→berthref20_LessNums.l0 k a b i=some (cZE eqI ltI (a.drop i) (b.drop i)):=by
 intro d
 induction d with
 | zero =>
  intro i k hd hk h0 h1
  obtain ⟨k,rfl⟩:∃ m,k=m+2:=⟨k - 2,by omega⟩
  unfold berthref20_LessNums.l0
  rw [if_neg (by omega)]
  unfold berthref20_LessNums.j1
  rw [if_neg (by decide),List.drop_eq_nil_of_le (by omega:a.length≤i)]
  by_cases hb:i<b.length
  ·
   rw [List.drop_eq_getElem_cons hb,decide_eq_true (by omega)]
   rfl
  ·
   rw [List.drop_eq_nil_of_le (by omega:b.length≤i),decide_eq_false (by omega)]
   rfl
 | succ d ih =>
  intro i k hd hk h0 h1
  obtain ⟨k,rfl⟩:∃ m,k=m+2:=⟨k - 2,by omega⟩
  have hlt:i<a.length:=by omega
  unfold berthref20_LessNums.l0
  rw [if_pos (by omega),List.drop_eq_getElem_cons hlt]
  by_cases hb:i<b.length
  ·
   rw [decide_eq_true (by omega:(i:Int)<(b.length:Int)),List.drop_eq_getElem_cons hb]
   unfold berthref20_LessNums.j1
   have IH:=ih (i+1) k (by omega) (by omega) (by omega) (by omega)
   clear ih
   rw [if_pos rfl,if_pos (Int.natCast_nonneg _),if_pos (Int.ofNat_lt.2 hlt),if_pos (Int.ofNat_lt.2 hb),show rd a (i:Int)=a[i] by simp [rd,hlt],show rd b (i:Int)=b[i] by simp [rd,hb],bZN i _ hlt ha]
   unfold cZE
   by_cases he:a[i]=b[i]
   · rw [if_pos he,if_pos (by simp [eqI,he]),IH]
   ·
    rw [if_neg he,if_neg (by simpa [eqI] using he)]
    rfl
  ·
   rw [decide_eq_false (by omega:¬(i:Int)<(b.length:Int)),List.drop_eq_nil_of_le (by omega:b.length≤i)]
   unfold berthref20_LessNums.j1
   rw [if_neg (by decide),decide_eq_false (by omega)]
   rfl
theorem eZZ (a b:List Int) (ha:a.length≤9223372036854775807) (hb:b.length≤9223372036854775807) (k:Nat) (hk:2*a.length+2*b.length+2≤k):∃ r,berthref20_sameNums.f k a b=some r∧(r=true↔a=b):=by
 have h1:=lessI_l a b ha a.length 0 k (by omega) (by omega) (by omega) (by omega)
 have h2:=lessI_l b a hb b.length 0 k (by omega) (by omega) (by omega) (by omega)
 rw [List.drop_zero,List.drop_zero] at h1 h2
 have hh := fZA eqI ltI (fun x y => by unfold eqI; rw [beq_iff_eq]) (fun x y hxy => by
  unfold ltI
  simp only [decide_eq_true_eq]
  omega) a b
 unfold berthref20_sameNums.f berthref20_LessNums.f
 rw [show (0:Int)=((0:Nat):Int) from rfl,h1,Option.bind_some,h2]
 cases hA:cZE eqI ltI a b
 ·
  rw [if_neg (by decide),Option.bind_some]
  refine ⟨_,rfl,?_⟩
  rw [←hh,hA]
  simp
 ·
  rw [if_pos rfl]
  refine ⟨_,rfl,?_⟩
  rw [←hh,hA]
  simp
theorem eZc {α:Type} {a b:List α} {i:Nat} (h:i<a.length) (h2:i<b.length):a.drop i=b.drop i↔a[i]=b[i]∧a.drop (i+1)=b.drop (i+1):=by
 rw [List.drop_eq_getElem_cons h,List.drop_eq_getElem_cons h2]
 constructor
 · intro hh;injection hh with h3 h4;exact ⟨h3,h4⟩
 · rintro ⟨h3,h4⟩;rw [h3,h4]
theorem instr_ne (x y:S66):(!(x.f0 == y.f0) || (!(x.f1 == y.f1) || (!(x.f2 == y.f2) || !(x.f3 == y.f3))))=true↔x≠y:=by
 constructor
 ·
  intro h e
  subst e
  simp at h
 ·
  intro h
  apply Classical.byContradiction
  intro hn
  apply h
  simp only [Bool.or_eq_true,Bool.not_eq_true',beq_eq_false_iff_ne,not_or,ne_eq,Classical.not_not] at hn
  obtain ⟨h0,h1,h2,h3⟩:=hn
  cases x
  cases y
  simp only at h0 h1 h2 h3
  subst h0 h1 h2 h3
  rfl
theorem dZ7 (k:Nat) (x62:Bool) (x207000:List ByteArray) (x207001:List Int) (x207002:List (List ByteArray)) (x207003:List (List Int)) (x207004:List S66) (x207005:Int) (x207006:Int) (x208000:List ByteArray) (x208001:List Int) (x208002:List (List ByteArray)) (x208003:List (List Int)) (x208004:List S66) (x208005:Int) (x208006:Int):berthref20_Same.j0 (k+1) x62 x207000 x207001 x207002 x207003 x207004 x207005 x207006 x208000 x208001 x208002 x208003 x208004 x208005 x208006=if x62=true then (some false) else (berthref20_Same.l0 k 0 x207000 x207001 x207002 x207003 x207004 x207005 x207006 x208000 x208001 x208002 x208003 x208004 x208005 x208006):=rfl
theorem dZ6 (k:Nat) (x5:Int) (x207000:List ByteArray) (x207001:List Int) (x207002:List (List ByteArray)) (x207003:List (List Int)) (x207004:List S66) (x207005:Int) (x207006:Int) (x208000:List ByteArray) (x208001:List Int) (x208002:List (List ByteArray)) (x208003:List (List Int)) (x208004:List S66) (x208005:Int) (x208006:Int):berthref20_Same.l0 (k+1) x5 x207000 x207001 x207002 x207003 x207004 x207005 x207006 x208000 x208001 x208002 x208003 x208004 x208005 x208006=if x5<(x207002.length:Int) then (if 0≤x5 then (if x5<(x208002.length:Int) then ((berthref20_sameTexts.f k (cZV x207002 x5) (cZV x208002 x5)).bind fun t212=>(if t212=true then (berthref20_Same.l0 k (wrap64 (x5+1)) x207000 x207001 x207002 x207003 x207004 x207005 x207006 x208000 x208001 x208002 x208003 x208004 x208005 x208006) else (some false))) else (none)) else (none)) else (berthref20_Same.l1 k 0 x207000 x207001 x207002 x207003 x207004 x207005 x207006 x208000 x208001 x208002 x208003 x208004 x208005 x208006):=rfl
theorem dZ5 (k:Nat) (x6:Int) (x207000:List ByteArray) (x207001:List Int) (x207002:List (List ByteArray)) (x207003:List (List Int)) (x207004:List S66) (x207005:Int) (x207006:Int) (x208000:List ByteArray) (x208001:List Int) (x208002:List (List ByteArray)) (x208003:List (List Int)) (x208004:List S66) (x208005:Int) (x208006:Int):berthref20_Same.l1 (k+1) x6 x207000 x207001 x207002 x207003 x207004 x207005 x207006 x208000 x208001 x208002 x208003 x208004 x208005 x208006=if x6<(x207003.length:Int) then (if 0≤x6 then (if x6<(x208003.length:Int) then ((berthref20_sameNums.f k (cZx x207003 x6) (cZx x208003 x6)).bind fun t215=>(if t215=true then (berthref20_Same.l1 k (wrap64 (x6+1)) x207000 x207001 x207002 x207003 x207004 x207005 x207006 x208000 x208001 x208002 x208003 x208004 x208005 x208006) else (some false))) else (none)) else (none)) else (berthref20_Same.l2 k 0 x207000 x207001 x207002 x207003 x207004 x207005 x207006 x208000 x208001 x208002 x208003 x208004 x208005 x208006):=rfl
theorem dZ4 (k:Nat) (x7:Int) (x207000:List ByteArray) (x207001:List Int) (x207002:List (List ByteArray)) (x207003:List (List Int)) (x207004:List S66) (x207005:Int) (x207006:Int) (x208000:List ByteArray) (x208001:List Int) (x208002:List (List ByteArray)) (x208003:List (List Int)) (x208004:List S66) (x208005:Int) (x208006:Int):berthref20_Same.l2 (k+1) x7 x207000 x207001 x207002 x207003 x207004 x207005 x207006 x208000 x208001 x208002 x208003 x208004 x208005 x208006=if x7<(x207004.length:Int) then (if 0≤x7 then (if x7<(x208004.length:Int) then (if (!(((aZg x207004 x7).f0) == ((aZg x208004 x7).f0)) || (!(((aZg x207004 x7).f1) == ((aZg x208004 x7).f1)) || (!(((aZg x207004 x7).f2) == ((aZg x208004 x7).f2)) || (!(((aZg x207004 x7).f3) == ((aZg x208004 x7).f3))))))=true then (some false) else (berthref20_Same.l2 k (wrap64 (x7+1)) x207000 x207001 x207002 x207003 x207004 x207005 x207006 x208000 x208001 x208002 x208003 x208004 x208005 x208006)) else (none)) else (none)) else (some true):=rfl
theorem arm_step {β:Type} (M M':List β) (i:Nat) (hlt:i<M.length) (hlt2:i<M'.length) (P:Prop) (Y X:Option Bool) (hY:∃ r,Y=some r∧(r=true↔M[i]=M'[i])) (IH:∃ r,X=some r∧(r=true↔M.drop (i+1)=M'.drop (i+1)∧P)):∃ r,(Y.bind fun t=>if t=true then X else some false)=some r∧(r=true↔M.drop i=M'.drop i∧P):=by
  obtain ⟨r0,rfl,g2⟩:=hY
  obtain ⟨r,rfl,h2⟩:=IH
  rw [eZc hlt hlt2,Option.bind_some]
  cases r0 with
  | true=>exact ⟨r,rfl,by rw [h2];exact ⟨fun h=>⟨⟨g2.1 rfl,h.1⟩,h.2⟩,fun h=>⟨h.1.2,h.2⟩⟩⟩
  | false=>exact ⟨false,rfl,⟨(fun h=>by cases h),fun h=>by have:=g2.2 h.1.1;cases this⟩⟩
section
variable (T T':List ByteArray) (N N':List Int) (S S':List (List ByteArray)) (M M':List (List Int)) (C C':List S66) (d l d' l':Int)
theorem same_l2 (hC:C.length=C'.length) (hl:C.length≤140737488351232):∀ (n i k:Nat),C.length - i=n→n<k→i≤C.length→∃ r,berthref20_Same.l2 k i T N S M C d l T' N' S' M' C' d' l'=some r∧(r=true↔C.drop i=C'.drop i):=by
 intro n
 induction n with
 | zero =>
  intro i k hn hk hi
  obtain ⟨k,rfl⟩:∃ m,k=m+1:=⟨k - 1,by omega⟩
  rw [dZ4]
  rw [if_neg (by omega),List.drop_eq_nil_of_le (by omega),List.drop_eq_nil_of_le (by omega)]
  exact ⟨true,rfl,by simp⟩
 | succ n ih =>
  intro i k hn hk hi
  obtain ⟨k,rfl⟩:∃ m,k=m+1:=⟨k - 1,by omega⟩
  have hlt:i<C.length:=by omega
  have hlt2:i<C'.length:=by omega
  have e0:aZg C (i:Int)=C[i]:=by simp [aZg,hlt]
  have e1:aZg C' (i:Int)=C'[i]:=by simp [aZg,hlt2]
  rw [dZ4]
  rw [if_pos (by omega),if_pos (by omega),if_pos (by omega),e0,e1,eZi i _ hlt hl,eZc hlt hlt2]
  by_cases he:C[i]=C'[i]
  ·
   rw [if_neg (fun hh=>(instr_ne _ _).1 hh he)]
   obtain ⟨r,h1,h2⟩:=ih (i+1) k (by omega) (by omega) (by omega)
   exact ⟨r,h1,by rw [h2];exact ⟨fun h=>⟨he,h⟩,fun h=>h.2⟩⟩
  ·
   rw [if_pos ((instr_ne _ _).2 he)]
   exact ⟨false,rfl,⟨(fun h=>by cases h),fun h=>absurd h.1 he⟩⟩
theorem same_l1 (hC:C.length=C'.length) (hl:C.length≤140737488351232) (hM:M.length=M'.length) (hlM:M.length≤140737488351232) (B:Nat) (hB:B≤140737488351232) (hb:∀ x∈M,x.length≤B) (hb':∀ x∈M',x.length≤B):∀ (n i k:Nat),M.length - i=n→n+C.length+4*B+4<k→i≤M.length→∃ r,berthref20_Same.l1 k i T N S M C d l T' N' S' M' C' d' l'=some r∧(r=true↔M.drop i=M'.drop i∧C=C'):=by
  intro n
  induction n with
  | zero =>
    intro i k hn hk hi
    obtain ⟨k,rfl⟩:∃ m,k=m+1:=⟨k - 1,by omega⟩
    rw [dZ5]
    obtain ⟨r,h1,h2⟩:=same_l2 T T' N N' S S' M M' C C' d l d' l' hC hl C.length 0 k (by omega) (by omega) (by omega)
    rw [if_neg (by omega),List.drop_eq_nil_of_le (by omega),List.drop_eq_nil_of_le (by omega)]
    exact ⟨r,h1,by rw [h2];simp⟩
  | succ n ih =>
    intro i k hn hk hi
    obtain ⟨k,rfl⟩:∃ m,k=m+1:=⟨k - 1,by omega⟩
    have hlt:i<M.length:=by omega
    have hlt2:i<M'.length:=by omega
    have IH:=ih (i+1) k (by omega) (by omega) (by omega)
    clear ih
    have b0:=hb _ (List.getElem_mem hlt)
    have b1:=hb' _ (List.getElem_mem hlt2)
    have e0:cZx M (i:Int)=M[i]:=by simp [cZx,hlt]
    have e1:cZx M' (i:Int)=M'[i]:=by simp [cZx,hlt2]
    rw [dZ5,if_pos (Int.ofNat_lt.2 hlt),if_pos (Int.natCast_nonneg _),if_pos (Int.ofNat_lt.2 hlt2),e0,e1,eZi i _ hlt hlM]
    clear e0 e1
    refine arm_step M M' i hlt hlt2 _ _ _ ?_ IH
    clear IH
    generalize M[i]=x at b0
    generalize M'[i]=y at b1
    exact eZZ x y (by omega) (by omega) k (by omega)
theorem same_l0 (hC:C.length=C'.length) (hl:C.length≤140737488351232) (hM:M.length=M'.length) (hlM:M.length≤140737488351232) (hS:S.length=S'.length) (hlS:S.length≤140737488351232) (B:Nat) (hB:B≤140737488351232) (hb:∀ x∈M,x.length≤B) (hb':∀ x∈M',x.length≤B) (hs:∀ x∈S,x.length≤B) (hs':∀ x∈S',x.length≤B):∀ (n i k:Nat),S.length - i=n→n+M.length+C.length+4*B+6<k→i≤S.length→∃ r,berthref20_Same.l0 k i T N S M C d l T' N' S' M' C' d' l'=some r∧(r=true↔S.drop i=S'.drop i∧M=M'∧C=C'):=by
  intro n
  induction n with
  | zero =>
    intro i k hn hk hi
    obtain ⟨k,rfl⟩:∃ m,k=m+1:=⟨k - 1,by omega⟩
    rw [dZ6]
    obtain ⟨r,h1,h2⟩:=same_l1 T T' N N' S S' M M' C C' d l d' l' hC hl hM hlM B hB hb hb' M.length 0 k (by omega) (by omega) (by omega)
    rw [if_neg (by omega),List.drop_eq_nil_of_le (by omega),List.drop_eq_nil_of_le (by omega)]
    exact ⟨r,h1,by rw [h2];simp⟩
  | succ n ih =>
    intro i k hn hk hi
    obtain ⟨k,rfl⟩:∃ m,k=m+1:=⟨k - 1,by omega⟩
    have hlt:i<S.length:=by omega
    have hlt2:i<S'.length:=by omega
    have IH:=ih (i+1) k (by omega) (by omega) (by omega)
    clear ih
    have b0:=hs _ (List.getElem_mem hlt)
    have b1:=hs' _ (List.getElem_mem hlt2)
    have e0:cZV S (i:Int)=S[i]:=by simp [cZV,hlt]
    have e1:cZV S' (i:Int)=S'[i]:=by simp [cZV,hlt2]
    rw [dZ6,if_pos (Int.ofNat_lt.2 hlt),if_pos (Int.natCast_nonneg _),if_pos (Int.ofNat_lt.2 hlt2),e0,e1,eZi i _ hlt hlS]
    clear e0 e1
    refine arm_step S S' i hlt hlt2 _ _ _ ?_ IH
    clear IH
    generalize S[i]=x at b0
    generalize S'[i]=y at b1
    exact eZp x y (by omega) (by omega) k (by omega)
end
theorem same_f (g h:Pg) (fg:Fits g) (fh:Fits h):∃ k r,berthref20_Same.f k g.T g.N g.S g.M g.C g.dep g.loc h.T h.N h.S h.M h.C h.dep h.loc=some r∧(r=true↔g=h):=by
 obtain ⟨T,N,S,M,C,d,l⟩:=g
 obtain ⟨T',N',S',M',C',d',l'⟩:=h
 obtain ⟨f1,f2,f3,f4,f5,f6,f7⟩:=fg
 obtain ⟨e1,e2,e3,e4,e5,e6,e7⟩:=fh
 dsimp only at f1 f2 f3 f4 f5 f6 f7 e1 e2 e3 e4 e5 e6 e7 ⊢
 obtain ⟨K,hK⟩:∃ K:Nat,1999999999999999≤K:=⟨_,Nat.le_refl _⟩
 refine ⟨K+1,?_⟩
 have hj:∀ k,∃ r,berthref20_Same.j0 (k+1) true T N S M C d l T' N' S' M' C' d' l'=some r∧r=false:=fun k=>⟨false,by rw [dZ7,if_pos rfl],rfl⟩
 obtain ⟨rt,t1,t2⟩:=eZp T T' (by omega) (by omega) (K+1) (by omega)
 have T1:=hid_ t1
 have T2:=hid_ t2
 clear t1 t2
 obtain ⟨rn,n1,n2⟩:=eZZ N N' (by omega) (by omega) (K+1) (by omega)
 obtain ⟨rj,j1,j2⟩:=hj K
 subst j2
 have N1:=hid_ n1
 have N2:=hid_ n2
 have J1:=hid_ j1
 clear n1 n2 j1 hj
 unfold berthref20_Same.f
 simp only [Pg.mk.injEq]
 by_cases hd:d=d'
 ·
  rw [if_pos hd]
  by_cases hl:l=l'
  ·
   rw [if_pos hl,T1.out,Option.bind_some]
   by_cases hT:T=T'
   ·
    rw [if_pos (T2.out.2 hT),N1.out,Option.bind_some]
    by_cases hN:N=N'
    ·
     rw [if_pos (N2.out.2 hN)]
     by_cases hS:(S.length:Int)=(S'.length:Int)
     ·
      rw [if_pos hS]
      by_cases hM:(M.length:Int)=(M'.length:Int)
      ·
       rw [if_pos hM]
       by_cases hC:(C.length:Int)=(C'.length:Int)
       ·
        have hc:((C.length:Int) != (C'.length:Int))=false:=by simp [hC]
        rw [hc]
        rw [dZ7]
        rw [if_neg (by decide)]
        obtain ⟨r,h1,h2⟩:=same_l0 T T' N N' S S' M M' C C' d l d' l' (by omega) f5 (by omega) f4 (by omega) f3 140737488351232 (by omega) f7 e7 f6 e6 S.length 0 K (by omega) (by omega) (by omega)
        exact ⟨r,h1,by rw [h2,List.drop_zero,List.drop_zero];simp [hd,hl,hT,hN]⟩
       ·
        have hc:((C.length:Int) != (C'.length:Int))=true:=by simpa using hC
        rw [hc]
        exact ⟨false, J1.out, by
         simp only [Bool.false_eq_true,false_iff]
         rintro ⟨_,_,_,_,h,_⟩
         exact hC (by rw [h])⟩
      ·
       rw [if_neg hM]
       exact ⟨false, J1.out, by
        simp only [Bool.false_eq_true,false_iff]
        rintro ⟨_,_,_,h,_⟩
        exact hM (by rw [h])⟩
     ·
      rw [if_neg hS]
      exact ⟨false, J1.out, by
       simp only [Bool.false_eq_true,false_iff]
       rintro ⟨_,_,h,_⟩
       exact hS (by rw [h])⟩
    ·
     rw [if_neg (fun h=>hN (N2.out.1 h))]
     exact ⟨false,J1.out,by simp [hN]⟩
   ·
    rw [if_neg (fun h=>hT (T2.out.1 h))]
    exact ⟨false,J1.out,by simp [hT]⟩
  ·
   rw [if_neg hl]
   exact ⟨false,J1.out,by simp [hl]⟩
 ·
  rw [if_neg hd]
  exact ⟨false,J1.out,by simp [hd]⟩
def Res {α:Type} (n:Int) (p:Int) (r:Except (Int × Int) (α × Int)):Prop:=(∀ k q,r=.error (k,q)→200≤k∧k≤206∧0≤q∧q≤n)∧(∀ x q,r=.ok (x,q)→p≤q∧q≤n)
theorem Res.err {α:Type} {n p k q:Int} (h:200≤k∧k≤206∧0≤q∧q≤n):Res (α:=α) n p (.error (k,q)) :=
  ⟨fun k2 q2 h2=>by simp only [Except.error.injEq,Prod.mk.injEq] at h2;obtain ⟨rfl,rfl⟩:=h2;exact h,fun x q h=>by cases h⟩
theorem Res.ok {α:Type} {n p q:Int} {x:α} (h:p≤q∧q≤n):Res n p (.ok (x,q)) :=
  ⟨(fun k2 q2 h2=>by cases h2),fun y q2 h2=>by simp only [Except.ok.injEq,Prod.mk.injEq] at h2;obtain ⟨rfl,rfl⟩:=h2;exact h⟩
theorem Res.lower {α:Type} {n p p2:Int} {r:Except (Int × Int) (α × Int)} (h:Res n p r) (hp:p2≤p):Res n p2 r:=⟨h.1,fun x q hx=>by have:=h.2 x q hx;omega⟩
def Tame {α:Type} (n:Int) (f:Int→Except (Int × Int) (α × Int)):Prop:=∀ p,0≤p→p≤n→Res n p (f p)
theorem Tame.bind {α β:Type} {n:Int} {f:Int→Except (Int × Int) (α × Int)} {g:α→Int→Except (Int × Int) (β × Int)} (hf:Tame n f) (hg:∀ x,Tame n (g x)) {F:Int→Except (Int × Int) (β × Int)} (hE:∀ p e,f p=.error e→F p=.error e) (hO:∀ p x q,f p=.ok (x,q)→F p=g x q):Tame n F:=by
  intro p h0 h1
  have h:=hf p h0 h1
  cases hp:f p with
  | error e =>
    obtain ⟨k,q⟩:=e
    rw [hE p _ hp]
    exact Res.err (h.1 k q hp)
  | ok xq =>
    obtain ⟨x,q⟩:=xq
    have:=h.2 x q hp
    rw [hO p _ _ hp]
    exact (hg x q (by omega) (by omega)).lower this.1
theorem countL_tame (bs:List Int) (frm lo hi:Int) (hfr:0≤frm∧frm≤bs.length):∀ (f i:Nat) (p n:Int),f+i=9→1≤f→0≤p→p≤bs.length→Res bs.length p (bZK bs frm lo hi f i p n):=by
 intro f
 induction f with
 | zero=>intro i p n _ h;omega
 | succ f ih =>
  intro i p n hfi _ h0 h1
  unfold bZK
  split
  · exact Res.err (by omega)
  ·
   split
   · exact Res.err (by omega)
   ·
    split
    ·
     next h8 h128 =>
     have:i≠8:=fun h=>h8 ⟨h,h128⟩
     exact (ih (i+1) (p+1) _ (by omega) (by omega) (by omega) (by omega)).lower (by omega)
    ·
     split
     · exact Res.err (by omega)
     ·
      split
      · exact Res.err (by omega)
      · exact Res.ok (by omega)
theorem aZu (bs:List Int) (lo hi:Int):Tame bs.length (fun p=>aZm bs p lo hi):=fun p h0 h1=>countL_tame bs p lo hi ⟨h0,h1⟩ 9 0 p 0 rfl (by omega) h0 h1
theorem countF_lo {bs:List Int} {p lo hi n q:Int} (h:aZm bs p lo hi=.ok (n,q)) (hlo:0≤lo):0≤n:=by
  have:=aZt h
  omega
theorem cZB (bs:List Int):Tame bs.length (numF bs):=(aZu bs 0 2000000000000000000).bind (g:=fun n q=>.ok (if n % 2=1 then -(n / 2) - 1 else n / 2,q)) (fun n q h0 h1=>Res.ok ⟨Int.le_refl _,h1⟩) (by intro p e h;simp only [numF,h]) (by intro p x q h;simp only [numF,h])
theorem bZ8 (bs:List Int):Tame bs.length (bZi bs):=by
 intro p h0 h1
 have h:=aZu bs 0 127 p h0 h1
 dsimp only at h
 unfold bZi
 cases hc:aZm bs p 0 127 with
 | error e =>
  obtain ⟨k,q⟩:=e
  exact Res.err (h.1 k q hc)
 | ok xq =>
  obtain ⟨n,q⟩:=xq
  have h2:=h.2 n q hc
  have h3:=countF_lo hc (by omega)
  dsimp only
  split
  · exact Res.err (by omega)
  · exact Res.ok (by omega)
theorem cZD {α:Type} (z:α) {n:Int} {one:Int→Except (Int × Int) (α × Int)} (cmp:α→α→Int) (ho:Tame n one):∀ (d:Nat) (acc:List α),Tame n (fun q=>aZr z one cmp d q acc):=by
 intro d
 induction d with
 | zero=>intro acc q h0 h1;exact Res.ok ⟨Int.le_refl _,h1⟩
 | succ d ih =>
  intro acc q h0 h1
  have h:=ho q h0 h1
  dsimp only [aZr]
  cases hc:one q with
  | error e =>
   obtain ⟨k,q⟩:=e
   exact Res.err (h.1 k q hc)
  | ok xq =>
   obtain ⟨x,q2⟩:=xq
   have h2:=h.2 x q2 hc
   dsimp only
   split
   · exact Res.err (by omega)
   · exact (ih _ q2 (by omega) (by omega)).lower h2.1
theorem bZp {α:Type} (z:α) {bs:List Int} {one:Int→Except (Int × Int) (α × Int)} (cmp:α→α→Int) (ho:Tame bs.length one) (lo hi:Int):Tame bs.length (fun p=>aZO z one cmp bs p lo hi) :=
  (aZu bs lo hi).bind (g:=fun n q=>aZr z one cmp n.toNat q []) (fun n=>cZD z cmp ho n.toNat []) (by intro p e h;simp only [aZO,h]) (by intro p x q h;simp only [aZO,h])
theorem cZb (bs:List Int):Tame bs.length (bZf bs):=bZp _ _ (bZ8 bs) 1 1000
theorem bZ9 (bs:List Int):Tame bs.length (bZr bs):=bZp _ _ (cZB bs) 1 1000
theorem eZz (bs:List Int) (b:Bool) (d:Int):Tame bs.length (getN bs b d):=by
 intro p h0 h1
 unfold getN
 split
 · exact aZu bs 0 65535 p h0 h1
 · exact Res.ok ⟨Int.le_refl _,h1⟩
theorem instrL_tame (bs:List Int) (u:Bool × Bool × Bool) (op a b c:Int):Tame bs.length (aZH bs u op 0 a b c) :=
  (eZz bs u.1 a).bind (g := fun a q => aZH bs u op 1 a b c q) (fun a => (eZz bs u.2.1 b).bind (g := fun b q => aZH bs u op 2 a b c q) (fun b => (eZz bs u.2.2 c).bind (g := fun c q => .ok (⟨op, a, b, c⟩, q)) (fun c q h0 h1 => Res.ok ⟨Int.le_refl _, h1⟩) (by intro p e h; simp only [aZH, h]) (by intro p x q h; simp only [aZH, h]))
    (by intro p e h;simp only [aZH,h]) (by intro p x q h;simp only [aZH,h])) (by intro p e h;simp only [aZH,h]) (by intro p x q h;simp only [aZH,h])
theorem eZy (bs:List Int):Tame bs.length (aZ9 bs):=by
 intro p h0 h1
 unfold aZ9
 split
 · exact Res.err (by omega)
 ·
  split
  · exact Res.err (by omega)
  ·
   refine Res.lower ?_ (show p≤p+1 by omega)
   exact instrL_tame bs _ _ 0 0 0 (p+1) (by omega) (by omega)
theorem fZe (bs:List Int):∀ (d:Nat) (acc:List S66),Tame bs.length (fun q=>cZj bs d q acc):=by
  intro d
  induction d with
  | zero=>intro acc q h0 h1;exact Res.ok ⟨Int.le_refl _,h1⟩
  | succ d ih =>
    intro acc
    exact (eZy bs).bind (g:=fun x q2=>cZj bs d q2 (acc++[x])) (fun x=>ih _) (by intro p e h;simp only [cZj,h]) (by intro p x q h;simp only [cZj,h])
theorem pEnd_tame (bs:List Int) (g:Pg):Tame bs.length (pEnd bs g):=by
 intro q h0 h1
 unfold pEnd
 split
 · exact Res.err (by omega)
 · exact Res.ok ⟨Int.le_refl _,h1⟩
theorem pCode_tame (bs:List Int) (T:List ByteArray) (N:List Int) (S:List (List ByteArray)) (M:List (List Int)) (dep loc:Int):Tame bs.length (dZN bs T N S M dep loc) :=
  (aZu bs 0 32768).bind (g:=fun n q=>dZe bs T N S M dep loc n.toNat q []) (fun n=>(fZe bs n.toNat []).bind (g:=fun C q=>pEnd bs ⟨T,N,S,M,C,dep,loc⟩ q) (fun C=>pEnd_tame bs _) (by intro p e h;simp only [dZe,h]) (by intro p x q h;simp only [dZe,h])) (by intro p e h;simp only [dZN,h]) (by intro p x q h;simp only [dZN,h])
theorem pM_tame (bs:List Int) (T:List ByteArray) (N:List Int) (S:List (List ByteArray)) (dep loc:Int):Tame bs.length (pM bs T N S dep loc) :=
  (bZp [] (cmpL cmpI) (bZ9 bs) 0 (4096 - T.length - N.length - S.length)).bind (g:=fun M q=>dZN bs T N S M dep loc q) (fun M=>pCode_tame bs T N S M dep loc) (by intro p e h;simp only [pM,h]) (by intro p x q h;simp only [pM,h])
theorem pS_tame (bs:List Int) (T:List ByteArray) (N:List Int) (dep loc:Int):Tame bs.length (pS bs T N dep loc) :=
  (bZp [] (cmpL cmpS) (cZb bs) 0 (4096 - T.length - N.length)).bind (g:=fun S q=>pM bs T N S dep loc q) (fun S=>pM_tame bs T N S dep loc) (by intro p e h;simp only [pS,h]) (by intro p x q h;simp only [pS,h])
theorem pN_tame (bs:List Int) (T:List ByteArray) (dep loc:Int):Tame bs.length (pN bs T dep loc) :=
  (bZp 0 cmpI (cZB bs) 0 (4096 - T.length)).bind (g:=fun N q=>pS bs T N dep loc q) (fun N=>pS_tame bs T N dep loc) (by intro p e h;simp only [pN,h]) (by intro p x q h;simp only [pN,h])
theorem pT_tame (bs:List Int) (dep loc:Int):Tame bs.length (pT bs dep loc) :=
  (bZp ByteArray.empty cmpS (bZ8 bs) 0 4096).bind (g:=fun T q=>pN bs T dep loc q) (fun T=>pN_tame bs T dep loc) (by intro p e h;simp only [pT,h]) (by intro p x q h;simp only [pT,h])
theorem pDep_tame (bs:List Int):Tame bs.length (pDep bs) :=
  (aZu bs 0 128).bind (g:=fun dep q=>pLoc bs dep q) (fun dep=>(aZu bs 0 1024).bind (g:=fun loc q=>pT bs dep loc q) (fun loc=>pT_tame bs dep loc) (by intro p e h;simp only [pLoc,h]) (by intro p x q h;simp only [pLoc,h])) (by intro p e h;simp only [pDep,h]) (by intro p x q h;simp only [pDep,h])
theorem dZT (bs:List Int):∀ (d i:Nat) (k q:Int),bZ2 bs d i=some (k,q)→200≤k∧k≤206∧0≤q∧q≤bs.length:=by
 intro d
 induction d with
 | zero=>intro i k q h;cases h
 | succ d ih =>
  intro i k q h
  unfold bZ2 at h
  split at h
  · simp only [Option.some.injEq,Prod.mk.injEq] at h;omega
  ·
   split at h
   · simp only [Option.some.injEq,Prod.mk.injEq] at h;omega
   · exact ih _ k q h
theorem fZ6 (bs:List Int):∀ (d i:Nat),bZ2 bs d i=none→0<d→d+i≤bs.length:=by
 intro d
 induction d with
 | zero=>intro i _ h;omega
 | succ d ih =>
  intro i h _
  unfold bZ2 at h
  split at h
  · cases h
  ·
   split at h
   · cases h
   ·
    by_cases hd:0<d
    · have:=ih _ h hd;omega
    · omega
theorem gZs (bs:List Int) (k q:Int) (h:aZG bs=.error (k,q)):200≤k∧k≤206∧0≤q∧q≤bs.length:=by
  unfold aZG at h
  cases hh:bZ2 bs 4 0 with
  | some f =>
    obtain ⟨k2,q2⟩:=f
    rw [hh] at h
    simp only [Except.error.injEq,Prod.mk.injEq] at h
    obtain ⟨rfl,rfl⟩:=h
    exact dZT bs 4 0 _ _ hh
  | none =>
    rw [hh] at h
    have:=fZ6 bs 4 0 hh (by omega)
    exact (pDep_tame bs 4 (by omega) (by omega)).1 k q h
theorem cmpS_lt (a b:ByteArray):(Op.bytesLess a.toList b.toList=true)↔¬ 0≤cmpS a b:=by
 unfold cmpS
 split
 · next h=>simp [h]
 · next h=>split <;> simp [h]
theorem eZw {α:Type} (eq lt:α→α→Bool) (cmp:α→α→Int) (he:∀ x y,eq x y=true↔cmp x y=0) (hl:∀ x y,lt x y=true↔cmp x y<0):∀ a b:List α,cZE eq lt a b=!decide (0≤cmpL cmp a b)
  | [],[]=>by simp [cZE,cmpL]
  | [],_ :: _=>by simp [cZE,cmpL]
  | _ :: _,[]=>by simp [cZE,cmpL]
  | x :: xs,y :: ys=>by
    unfold cZE cmpL
    by_cases h:cmp x y=0
    · rw [if_pos ((he x y).2 h),if_pos h,eZw eq lt cmp he hl xs ys]
    · rw [if_neg (fun hh=>h ((he x y).1 hh)),if_neg h]
      by_cases h2:cmp x y<0
      · rw [(hl x y).2 h2,decide_eq_false (by omega)]
        rfl
      · rw [decide_eq_true (by omega)]
        cases h3:lt x y
        · rfl
        · exact absurd ((hl x y).1 h3) h2
theorem lessS_cmp (a b : List ByteArray) : cZE eqS ltS a b = !decide (0 ≤ cmpL cmpS a b) := eZw _ _ _ (fun x y => by
 unfold eqS cmpS
 rw [beq_iff_eq]
 have ht:=Go.Proofs.YtbnplhmmbnmagaaX.bl_total x.toList y.toList
 constructor
 ·
  intro h
  rw [h]
  have:Op.bytesLess y.toList y.toList=false:=by
   have h2:=Go.Proofs.YtbnplhmmbnmagaaX.bl_total y.toList y.toList
   rw [beq_self_eq_true,Bool.or_true] at h2
   cases h3:Op.bytesLess y.toList y.toList
   · rfl
   · rw [h3] at h2;cases h2
  simp [this]
 ·
  intro h
  by_cases h1:Op.bytesLess x.toList y.toList=true
  · rw [if_pos h1] at h;cases h
  ·
   by_cases h2:Op.bytesLess y.toList x.toList=true
   · rw [if_neg h1,if_pos h2] at h;cases h
   ·
    rw [eq_false_of_ne_true h1,eq_false_of_ne_true h2] at ht
    simpa using ht) (fun x y => by
 unfold ltS
 rw [cmpS_lt]
 omega) a b
theorem lessI_cmp (a b : List Int) : cZE eqI ltI a b = !decide (0 ≤ cmpL cmpI a b) := eZw _ _ _ (fun x y => by
    unfold eqI cmpI
    rw [beq_iff_eq]
    split <;> (try split) <;> omega) (fun x y => by
    unfold ltI cmpI
    rw [decide_eq_true_eq]
    split <;> (try split) <;> omega) a b
theorem lessS_any (w:World) (A B:Option Addr) (c d:Nat) (a b:List ByteArray) (ha:Kd.C Kd.string w A a.length a) (hc:a.length≤c) (hb:Kd.C Kd.string w B b.length b) (hd:b.length≤d) (hl:a.length≤9223372036854775807):Calls Try.prog 67 #[.slice A a.length c,.slice B b.length d] w fun e w'=>e=.returned (.bool (!decide (0≤cmpL cmpS a b)))∧Drawn0 w w' :=
  berthref20_LessTexts.calls (2 * a.length + 2) A c a B d b _ w ha hc hb hd (by
    have h:=lessS_l a b (by omega) a.length 0 (2*a.length+2) (by omega) (by omega) (by omega) (by omega)
    rw [List.drop_zero,List.drop_zero,lessS_cmp] at h
    exact h)
theorem fZZ (w:World) (A B:Option Addr) (c d:Nat) (a b:List Int) (ha:Kd.C (Kd.int .i64) w A a.length a) (hc:a.length≤c) (hb:Kd.C (Kd.int .i64) w B b.length b) (hd:b.length≤d) (hl:a.length≤9223372036854775807):Calls Try.prog 68 #[.slice A a.length c,.slice B b.length d] w fun e w'=>e=.returned (.bool (!decide (0≤cmpL cmpI a b)))∧Drawn0 w w' :=
  berthref20_LessNums.calls (2 * a.length + 2) A c a B d b _ w ha hc hb hd (by
    have h:=lessI_l a b (by omega) a.length 0 (2*a.length+2) (by omega) (by omega) (by omega) (by omega)
    rw [List.drop_zero,List.drop_zero,lessI_cmp] at h
    exact h)
theorem usesRef:∀ n:_root_.Fin 36,berthref20_Uses.f 5 ((n.1:Int)+1)=some (bZD ((n.1:Int)+1)):=by decide
theorem uses_any (w:World) (op:Int) (h0:1≤op) (h1:op≤36):Calls Try.prog 101 #[.int .i64 op] w fun e w'=>e=.returned (.tuple #[.bool (bZD op).1,.bool (bZD op).2.1,.bool (bZD op).2.2])∧Drawn0 w w' :=
  berthref20_Uses.calls 5 op _ _ _ w (by
    have h:=usesRef ⟨(op - 1).toNat,by omega⟩
    rw [show (((op - 1).toNat:Int)+1)=op by omega] at h
    exact h)
end Go.Proofs.Ytbnplhmmbnmagaa.D
