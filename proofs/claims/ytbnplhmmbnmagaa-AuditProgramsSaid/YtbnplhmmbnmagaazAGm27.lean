/- Copy, plain; the contracts of Copy and Same over values that read as a program (turned from F1, F2 of the Code laws; no bound of 'small' here). -/
import Derived.Test.YtbnplhmmbnmagaazAGm25
import Derived.Test.YtbnplhmmbnmagaazAGm26
import Derived.Test.YtbnplhmmbnmagaazAGm2
import Derived.Test.YtbnplhmmbnmagaazAGm4
import Derived.Test.YtbnplhmmbnmagaazAGm3
import Derived.Test.YtbnplhmmbnmagaazAGm5
import Derived.Test.YtbnplhmmbnmagaazAGm6
set_option linter.unusedVariables false
set_option linter.unusedSimpArgs false
namespace Go.Proofs.Ytbnplhmmbnmagaa.D
open Go.RowKit Go.Proofs.YtbnplhmmbnmagaaW.PrintWords Go.Proofs.YtbnplhmmbnmagaaW.PrintLast Go.Proofs.YtbnplhmmbnmagaaW.PrintMore Go.Proofs.Ytbnplhmmbnmagaa.All
theorem dZG (k:Nat) (x4:Int) (x311000:List ByteArray) (x311001:List Int) (x311002:List (List ByteArray)) (x311003:List (List Int)) (x311004:List (S66)) (x311005:Int) (x311006:Int) (x313000:List ByteArray) (x313001:List Int) (x313002:List (List ByteArray)) (x313004:List (S66)) (x313005:Int) (x313006:Int):berthref20_Copy.l0 (k+1) x4 x311000 x311001 x311002 x311003 x311004 x311005 x311006 x313000 x313001 x313002 x313004 x313005 x313006=if x4<(x311002.length:Int) then ((some (([]:List ByteArray):List ByteArray)).bind fun y322=>(if 0≤x4 then (if y322.length+(cZR x311002 x4).length<8796093022208 then (if x313002.length<5864062014805 then (berthref20_Copy.l0 k (wrap64 (x4+1)) x311000 x311001 x311002 x311003 x311004 x311005 x311006 x313000 x313001 (x313002++[(y322++(cZR x311002 x4))]) x313004 x313005 x313006) else (none)) else (none)) else (none))) else (berthref20_Copy.l1 k 0 x311000 x311001 x311002 x311003 x311004 x311005 x311006 x313000 x313001 x313002 ([]:List (List Int)) x313004 x313005 x313006):=rfl
theorem dZF (k:Nat) (x5:Int) (x311000:List ByteArray) (x311001:List Int) (x311002:List (List ByteArray)) (x311003:List (List Int)) (x311004:List (S66)) (x311005:Int) (x311006:Int) (x313000:List ByteArray) (x313001:List Int) (x313002:List (List ByteArray)) (x313003:List (List Int)) (x313004:List (S66)) (x313005:Int) (x313006:Int):berthref20_Copy.l1 (k+1) x5 x311000 x311001 x311002 x311003 x311004 x311005 x311006 x313000 x313001 x313002 x313003 x313004 x313005 x313006=if x5<(x311003.length:Int) then ((some (([]:List Int):List Int)).bind fun y332=>(if 0≤x5 then (if y332.length+(cZQ x311003 x5).length<17592186044416 then (if x313003.length<5864062014805 then (berthref20_Copy.l1 k (wrap64 (x5+1)) x311000 x311001 x311002 x311003 x311004 x311005 x311006 x313000 x313001 x313002 (x313003++[(y332++(cZQ x311003 x5))]) x313004 x313005 x313006) else (none)) else (none)) else (none))) else (some (x313000,x313001,x313002,x313003,x313004,x313005,x313006)):=rfl
structure FitsB (g:Pg):Prop where
  T:g.T.length*16≤140737488351232
  N:g.N.length*8≤140737488351232
  S:g.S.length*24≤140737488351232
  M:g.M.length*24≤140737488351232
  C:g.C.length*32≤140737488351232
  SS:∀ x∈g.S,x.length*16≤140737488351232
  MM:∀ x∈g.M,x.length*8≤140737488351232
theorem FitsB.fits {g:Pg} (h:FitsB g):Fits g:=by
  obtain ⟨h1,h2,h3,h4,h5,h6,h7⟩:=h
  exact ⟨by omega,by omega,by omega,by omega,by omega,fun x hx=>by have:=h6 x hx;omega,fun x hx=>by have:=h7 x hx;omega⟩
theorem eZj (i n:Nat) (h:i<n) (hn:n≤140737488351232):wrap64 ((i:Int)+1)=((i+1:Nat):Int):=by rw [wrap_ _ (by omega) (by omega)];omega
section
variable (T:List ByteArray) (N:List Int) (S:List (List ByteArray)) (M:List (List Int)) (C:List S66) (d l:Int)
theorem copy_l1 (T2:List ByteArray) (N2:List Int) (S2:List (List ByteArray)) (C2:List S66) (d2 l2:Int) (hlM:M.length*24≤140737488351232) (hb:∀ x∈M,x.length*8≤140737488351232):∀ (r i k:Nat),M.length - i=r→r<k→i≤M.length→berthref20_Copy.l1 k i T N S M C d l T2 N2 S2 (M.take i) C2 d2 l2=some (T2,N2,S2,M,C2,d2,l2):=by
  intro r
  induction r with
  | zero =>
    intro i k hn hk hi
    obtain ⟨k,rfl⟩:∃ m,k=m+1:=⟨k - 1,by omega⟩
    rw [dZF,if_neg (by omega),List.take_of_length_le (by omega)]
  | succ r ih =>
    intro i k hn hk hi
    obtain ⟨k,rfl⟩:∃ m,k=m+1:=⟨k - 1,by omega⟩
    have hlt:i<M.length:=by omega
    have b0:=hb _ (List.getElem_mem hlt)
    have IH:=ih (i+1) k (by omega) (by omega) (by omega)
    clear ih
    have e0:cZQ M (i:Int)=M[i]:=by simp [cZQ,hlt]
    have et:(M.take i).length=i:=by rw [List.length_take];omega
    rw [dZF,if_pos (Int.ofNat_lt.2 hlt),e0,Option.bind_some,if_pos (Int.natCast_nonneg _),et,if_pos (by simp only [List.length_nil];omega),if_pos (by omega),eZj i _ hlt (by omega),List.nil_append,List.take_append_getElem hlt]
    exact IH
theorem copy_l0 (T2:List ByteArray) (N2:List Int) (C2:List S66) (d2 l2:Int) (hlM:M.length*24≤140737488351232) (hb:∀ x∈M,x.length*8≤140737488351232) (hlS:S.length*24≤140737488351232) (hs:∀ x∈S,x.length*16≤140737488351232):∀ (r i k:Nat),S.length - i=r→r+M.length+1<k→i≤S.length→berthref20_Copy.l0 k i T N S M C d l T2 N2 (S.take i) C2 d2 l2=some (T2,N2,S,M,C2,d2,l2):=by
  intro r
  induction r with
  | zero =>
    intro i k hn hk hi
    obtain ⟨k,rfl⟩:∃ m,k=m+1:=⟨k - 1,by omega⟩
    rw [dZG,if_neg (by omega),List.take_of_length_le (by omega)]
    exact copy_l1 T N S M C d l T2 N2 S C2 d2 l2 hlM hb M.length 0 k (by omega) (by omega) (by omega)
  | succ r ih =>
    intro i k hn hk hi
    obtain ⟨k,rfl⟩:∃ m,k=m+1:=⟨k - 1,by omega⟩
    have hlt:i<S.length:=by omega
    have b0:=hs _ (List.getElem_mem hlt)
    have IH:=ih (i+1) k (by omega) (by omega) (by omega)
    clear ih
    have e0:cZR S (i:Int)=S[i]:=by simp [cZR,hlt]
    have et:(S.take i).length=i:=by rw [List.length_take];omega
    rw [dZG,if_pos (Int.ofNat_lt.2 hlt),e0,Option.bind_some,if_pos (Int.natCast_nonneg _),et,if_pos (by simp only [List.length_nil];omega),if_pos (by omega),eZj i _ hlt (by omega),List.nil_append,List.take_append_getElem hlt]
    exact IH
end
theorem copy_f (g:Pg) (f:FitsB g):∃ k,berthref20_Copy.f k g.T g.N g.S g.M g.C g.dep g.loc=some (g.T,g.N,g.S,g.M,g.C,g.dep,g.loc):=by
 obtain ⟨f1,f2,f3,f4,f5,f6,f7⟩:=f
 have h:=copy_l0 g.T g.N g.S g.M g.C g.dep g.loc g.T g.N g.C g.dep g.loc f4 f7 f3 f6 g.S.length 0 (g.S.length+g.M.length+2) (by omega) (by omega) (by omega)
 refine ⟨g.S.length+g.M.length+2,?_⟩
 ·
  unfold berthref20_Copy.f
  rw [if_pos (by simp only [List.length_nil];omega),if_pos (by simp only [List.length_nil];omega),if_pos (by simp only [List.length_nil];omega)]
  exact h
theorem cntF_bytes:∀ f n,cZ2 (cntF f n)
  | 0,n,x,hx=>by
    unfold cntF at hx
    have:=List.mem_singleton.1 hx
    omega
  | f+1,n,x,hx=>by
    unfold cntF at hx
    split at hx
    · rcases List.mem_cons.1 hx with rfl|hx
      · omega
      · exact cntF_bytes f _ x hx
    · have:=List.mem_singleton.1 hx
      omega
theorem bZc {a b:List Int} (ha:cZ2 a) (hb:cZ2 b):cZ2 (a++b):=fun x hx=>(List.mem_append.1 hx).elim (ha x) (hb x)
theorem bZJ {α:Type} (put:α→List Int) (l:List α) (h:∀ x,cZ2 (put x)):cZ2 (aZt put l):=by
  unfold aZt
  refine bZc (cntF_bytes _ _) (fun x hx=>?_)
  obtain ⟨y,hy,hxy⟩:=List.mem_flatten.1 hx
  obtain ⟨z,_,rfl⟩:=List.mem_map.1 hy
  exact h z x hxy
theorem eZ1 (s:ByteArray):cZ2 (bytesOf s):=by
  intro x hx
  unfold bytesOf at hx
  obtain ⟨b,_,rfl⟩:=List.mem_map.1 hx
  have:=b.toNat_lt
  omega
theorem dZf (s:ByteArray):cZ2 (aZ2 s):=bZc (cntF_bytes _ _) (eZ1 s)
theorem encP_bytes (g:Pg):cZ2 (encP g):=by
 unfold encP
 refine bZc (bZc (bZc (bZc (bZc (bZc (bZc ?_ (cntF_bytes _ _)) (cntF_bytes _ _)) (bZJ _ _ dZf)) (bZJ _ _ (fun n=>cntF_bytes _ _))) (bZJ _ _ (fun y=>bZJ _ y dZf))) (bZJ _ _ (fun y=>bZJ _ y (fun n=>cntF_bytes _ _)))) (bZJ _ _ (fun x=>?_))
 ·
  intro x hx
  simp only [List.mem_cons,List.not_mem_nil,or_false] at hx
  omega
 ·
  unfold aZW
  refine bZc (bZc (bZc (fun y hy=>by have:=List.mem_singleton.1 hy;omega) ?_) ?_) ?_ <;> (split;exact cntF_bytes _ _;exact fun y hy=>by cases hy)
theorem encP_len (g:Pg) (h:bZ3 g=true):(encP g).length≤700000000:=by
  obtain ⟨F1,F2,F3,F4,F5,F6,F7,F8,F9⟩:=dZ0 h
  unfold encP
  have a1:=aZ1 g.dep
  have a2:=aZ1 g.loc
  have a3:=bZq aZ2 137 g.T (fun s hs=>dZ4 s (F5 s hs))
  have a4:=bZq bZF 10 g.N (fun n _=>aZ1 _)
  have a5:=bZq (aZt aZ2) 137010 g.S (fun y hy=>by have:=bZq aZ2 137 y (fun s hs=>dZ4 s ((F7 y hy).2 s hs));have:=(F7 y hy).1;omega)
  have a6:=bZq (aZt bZF) 10010 g.M (fun y hy=>by have:=bZq bZF 10 y (fun n _=>aZ1 _);have:=(F8 y hy).1;omega)
  have a7:=bZq aZW 31 g.C (fun x _=>fZv x)
  simp only [List.length_append,List.length_cons,List.length_nil]
  omega
theorem encP_good (g:Pg) (h:bZ3 g=true):Good (encP g):=⟨encP_bytes g,by have:=encP_len g h;omega⟩
theorem fZW (g:Pg) (h:bZ3 g=true):Fits g:=by
  obtain ⟨F1,F2,F3,F4,F5,F6,F7,F8,F9⟩:=dZ0 h
  exact ⟨by omega,by omega,by omega,by omega,by omega,fun x hx=>by have:=(F7 x hx).1;omega,fun x hx=>by have:=(F8 x hx).1;omega⟩
theorem IsPg.read {base:Nat} {g:Pg} {v:Value} {w:World} (h:IsPg base g v w):∃ A0 A1 A2 A3 A4 c0 c1 c2 c3 c4,v=bZE A0 A1 A2 A3 A4 c0 c1 c2 c3 c4 g∧InPg w A0 A1 A2 A3 A4 c0 c1 c2 c3 c4 g:=by
  obtain ⟨vT,vN,vS,vM,vC,rfl,hT,hN,hS,hM,hC⟩:=h
  obtain ⟨A0,c0,rfl,k0,r0⟩:=Kd.R_reads hT
  obtain ⟨A1,c1,rfl,k1,r1⟩:=Kd.R_reads hN
  obtain ⟨A2,c2,rfl,k2,r2⟩:=Kd.R_reads hS
  obtain ⟨A3,c3,rfl,k3,r3⟩:=Kd.R_reads hM
  obtain ⟨A4,c4,rfl,k4,r4⟩:=Kd.R_reads hC
  exact ⟨A0,A1,A2,A3,A4,c0,c1,c2,c3,c4,rfl,r0,r1,r2,r3,r4,k0,k1,k2,k3,k4⟩
section
variable (w:World) (A0 A1 A2 A3 A4:Option Addr) (c0 c1 c2 c3 c4:Nat) (g:Pg) (hg:InPg w A0 A1 A2 A3 A4 c0 c1 c2 c3 c4 g)
theorem gZr (hg:InPg w A0 A1 A2 A3 A4 c0 c1 c2 c3 c4 g) (sg:FitsB g) :
 Calls Try.prog 12 #[bZE A0 A1 A2 A3 A4 c0 c1 c2 c3 c4 g] w fun e w'=>∃ B0 B1 B2 B3 B4 e0 e1 e2 e3 e4,e=.returned (bZE B0 B1 B2 B3 B4 e0 e1 e2 e3 e4 g)∧InPg w' B0 B1 B2 B3 B4 e0 e1 e2 e3 e4 g∧Below w.heap.size w w':=by
 obtain ⟨k,h1⟩:=copy_f g sg
 refine (berthref20_Copy.calls k A0 c0 g.T A1 c1 g.N A2 c2 g.S A3 c3 g.M A4 c4 g.C g.dep g.loc g.T g.N g.S g.M g.C g.dep g.loc w hg.T hg.lT hg.N hg.lN hg.S hg.lS hg.M hg.lM hg.C hg.lC h1).mono ?_
 rintro e w' ⟨v0,v1,v2,v3,v4,rfl,hT,hN,hS,hM,hC,hb⟩
 obtain ⟨A0,c0,rfl,k0,r0⟩:=Kd.R_reads hT
 obtain ⟨A1,c1,rfl,k1,r1⟩:=Kd.R_reads hN
 obtain ⟨A2,c2,rfl,k2,r2⟩:=Kd.S_reads hS
 obtain ⟨A3,c3,rfl,k3,r3⟩:=Kd.S_reads hM
 obtain ⟨A4,c4,rfl,k4,r4⟩:=Kd.R_reads hC
 exact ⟨A0,A1,A2,A3,A4,c0,c1,c2,c3,c4,rfl,⟨r0,r1,r2,r3,r4,k0,k1,k2,k3,k4⟩,hb⟩
end
end Go.Proofs.Ytbnplhmmbnmagaa.D
