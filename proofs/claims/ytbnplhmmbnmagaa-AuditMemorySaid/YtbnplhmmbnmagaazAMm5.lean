/- The audit's walks: the walk's block; operands. -/
import Derived.Test.YtbnplhmmbnmagaazAMm1
import Derived.Test.YtbnplhmmbnmagaazAMm2
set_option maxHeartbeats 4000000
set_option maxRecDepth 100000
set_option linter.all false
namespace Go.Proofs.Ytbnplhmmbnmagaa.D
open Go.RowKit Go.Proofs.YtbnplhmmbnmagaaW.PrintWords Go.Proofs.YtbnplhmmbnmagaaW.PrintLast Go.Proofs.YtbnplhmmbnmagaaW.PrintMore Go.Proofs.Ytbnplhmmbnmagaa.All
structure Wk where
  a0:Option Addr
  a1:Option Addr
  a2:Option Addr
  a3:Option Addr
  a4:Option Addr
  ar:Option Addr
  c0:Nat
  c1:Nat
  c2:Nat
  c3:Nat
  c4:Nat
  cr:Nat
  nT:Nat
  nN:Nat
  nS:Nat
  nM:Nat
  C:List S66
  dep:Int
  loc:Int
  g:Nat
  m:Nat
def Wk.blk (k:Wk) (W:World) (tv:Value) (most:Int):Prop :=
  W.heap[k.g]?=some (.cells #[.slice k.a0 k.nT k.c0,.slice k.a1 k.nN k.c1,.slice k.a2 k.nS k.c2,.slice k.a3 k.nM k.c3,.slice k.a4 k.C.length k.c4,.int .i64 k.dep,.int .i64 k.loc,.slice k.ar 37 k.cr,.map (some k.m),tv,.int .i64 most] 89 (0,0))
theorem Wk.cells {k:Wk} {W:World} {tv:Value} {most:Int} (h:k.blk W tv most) :
    W.cell? ⟨k.g,0,none⟩=some (.slice k.a0 k.nT k.c0)∧W.cell? ⟨k.g,1,none⟩=some (.slice k.a1 k.nN k.c1)∧W.cell? ⟨k.g,2,none⟩=some (.slice k.a2 k.nS k.c2)∧W.cell? ⟨k.g,3,none⟩=some (.slice k.a3 k.nM k.c3)∧W.cell? ⟨k.g,4,none⟩=some (.slice k.a4 k.C.length k.c4)∧W.cell? ⟨k.g,5,none⟩=some (.int .i64 k.dep)∧W.cell? ⟨k.g,6,none⟩=some (.int .i64 k.loc)∧W.cell? ⟨k.g,7,none⟩=some (.slice k.ar 37 k.cr)∧W.cell? ⟨k.g,8,none⟩=some (.map (some k.m))∧W.cell? ⟨k.g,9,none⟩=some tv∧W.cell? ⟨k.g,10,none⟩=some (.int .i64 most)∧W.frozen? ⟨k.g,9,none⟩=false∧W.frozen? ⟨k.g,10,none⟩=false:=by
  unfold Wk.blk at h
  simp [World.cell?,World.frozen?,h]
def bZk (k:Wk) (l n:Int):Bool :=
  if l=117 then decide (n=0∨n=1) else if l=116 then decide (0≤n∧n<k.nT) else if l=115 then decide (0≤n∧n<k.nS) else if l=110 then decide (0≤n∧n<k.nN) else if l=109 then decide (0≤n∧n<k.nM)
  else if l=99 then decide (1≤n∧n≤6) else if l=108 then decide (0≤n∧n<k.loc) else if l=106 then true else decide (n=0)
theorem aZ4 {a b:Bool} {W:World} (h:a=b):Ending.returned (.bool a)=Ending.returned (.bool b)∧W=W:=⟨by rw [h],rfl⟩
theorem dZw (k:Wk) (W:World) (tv:Value) (most:Int) (h:k.blk W tv most) (l n:Int) :
 Calls Try.prog 104 #[.pointer (some ⟨k.g,0,none⟩),.int .u8 l,.int .i64 n] W fun e w'=>e=.returned (.bool (bZk k l n))∧w'=W:=by
 obtain ⟨q0,q1,q2,q3,q4,q5,q6,-⟩:=Wk.cells h
 clear h
 unfold bZk
 by_cases h1:l=117
 ·
  subst h1
  rw [if_pos rfl]
  by_cases h0:n=0
  ·
   subst h0
   go_enter Try.func104,Try.ntmps104
   go_wp2_with (fail)
   go_ret
   exact aZ4 rfl
  ·
   have d0:(n == 0)=false:=by simpa using h0
   have e:decide (n=0∨n=1)=(n == 1):=by rw [Bool.eq_iff_iff];simp [h0]
   rw [e];clear e h0
   go_enter Try.func104,Try.ntmps104
   go_wp2_with (fail)
   go_ret
   exact aZ4 rfl
 ·
  have d1:(l == 117)=false:=by simpa using h1
  rw [if_neg h1];clear h1
  by_cases h2:l=116
  ·
   subst h2
   rw [if_pos rfl]
   by_cases h0:0≤n
   ·
    have e:decide (0≤n∧n<k.nT)=decide (n<k.nT):=by rw [Bool.eq_iff_iff];simp [h0]
    rw [e];clear e
    go_enter Try.func104,Try.ntmps104
    go_wp2_with (fail)
    go_ret
    exact aZ4 rfl
   ·
    have e:decide (0≤n∧n<k.nT)=false:=decide_eq_false (fun h=>h0 h.1)
    have d0:decide (n≥0)=false:=decide_eq_false h0
    rw [e];clear e
    go_enter Try.func104,Try.ntmps104
    go_wp2_with (fail)
    go_ret
    exact aZ4 rfl
  ·
   have d2:(l == 116)=false:=by simpa using h2
   rw [if_neg h2];clear h2
   by_cases h3:l=115
   ·
    subst h3
    rw [if_pos rfl]
    by_cases h0:0≤n
    ·
     have e:decide (0≤n∧n<k.nS)=decide (n<k.nS):=by rw [Bool.eq_iff_iff];simp [h0]
     rw [e];clear e
     go_enter Try.func104,Try.ntmps104
     go_wp2_with (fail)
     go_ret
     exact aZ4 rfl
    ·
     have e:decide (0≤n∧n<k.nS)=false:=decide_eq_false (fun h=>h0 h.1)
     have d0:decide (n≥0)=false:=decide_eq_false h0
     rw [e];clear e
     go_enter Try.func104,Try.ntmps104
     go_wp2_with (fail)
     go_ret
     exact aZ4 rfl
   ·
    have d3:(l == 115)=false:=by simpa using h3
    rw [if_neg h3];clear h3
    by_cases h4:l=110
    ·
     subst h4
     rw [if_pos rfl]
     by_cases h0:0≤n
     ·
      have e:decide (0≤n∧n<k.nN)=decide (n<k.nN):=by rw [Bool.eq_iff_iff];simp [h0]
      rw [e];clear e
      go_enter Try.func104,Try.ntmps104
      go_wp2_with (fail)
      go_ret
      exact aZ4 rfl
     ·
      have e:decide (0≤n∧n<k.nN)=false:=decide_eq_false (fun h=>h0 h.1)
      have d0:decide (n≥0)=false:=decide_eq_false h0
      rw [e];clear e
      go_enter Try.func104,Try.ntmps104
      go_wp2_with (fail)
      go_ret
      exact aZ4 rfl
    ·
     have d4:(l == 110)=false:=by simpa using h4
     rw [if_neg h4];clear h4
     by_cases h5:l=109
     ·
      subst h5
      rw [if_pos rfl]
      by_cases h0:0≤n
      ·
       have e:decide (0≤n∧n<k.nM)=decide (n<k.nM):=by rw [Bool.eq_iff_iff];simp [h0]
       rw [e];clear e
       go_enter Try.func104,Try.ntmps104
       go_wp2_with (fail)
       go_ret
       exact aZ4 rfl
      ·
       have e:decide (0≤n∧n<k.nM)=false:=decide_eq_false (fun h=>h0 h.1)
       have d0:decide (n≥0)=false:=decide_eq_false h0
       rw [e];clear e
       go_enter Try.func104,Try.ntmps104
       go_wp2_with (fail)
       go_ret
       exact aZ4 rfl
     ·
      have d5:(l == 109)=false:=by simpa using h5
      rw [if_neg h5];clear h5
      by_cases h6:l=99
      ·
       subst h6
       rw [if_pos rfl]
       by_cases h0:1≤n
       ·
        have e:decide (1≤n∧n≤6)=decide (n≤6):=by rw [Bool.eq_iff_iff];simp [h0]
        rw [e];clear e
        go_enter Try.func104,Try.ntmps104
        go_wp2_with (fail)
        go_ret
        exact aZ4 rfl
       ·
        have e:decide (1≤n∧n≤6)=false:=decide_eq_false (fun h=>h0 h.1)
        have d0:decide (n≥1)=false:=decide_eq_false h0
        rw [e];clear e
        go_enter Try.func104,Try.ntmps104
        go_wp2_with (fail)
        go_ret
        exact aZ4 rfl
      ·
       have d6:(l == 99)=false:=by simpa using h6
       rw [if_neg h6];clear h6
       by_cases h7:l=108
       ·
        subst h7
        rw [if_pos rfl]
        by_cases h0:0≤n
        ·
         have e:decide (0≤n∧n<k.loc)=decide (n<k.loc):=by rw [Bool.eq_iff_iff];simp [h0]
         rw [e];clear e
         go_enter Try.func104,Try.ntmps104
         go_wp2_with (fail)
         go_ret
         exact aZ4 rfl
        ·
         have e:decide (0≤n∧n<k.loc)=false:=decide_eq_false (fun h=>h0 h.1)
         have d0:decide (n≥0)=false:=decide_eq_false h0
         rw [e];clear e
         go_enter Try.func104,Try.ntmps104
         go_wp2_with (fail)
         go_ret
         exact aZ4 rfl
       ·
        have d7:(l == 108)=false:=by simpa using h7
        rw [if_neg h7];clear h7
        by_cases h8:l=106
        ·
         subst h8
         rw [if_pos rfl]
         go_enter Try.func104,Try.ntmps104
         go_wp2_with (fail)
         go_ret
         exact aZ4 rfl
        ·
         have d8:(l == 106)=false:=by simpa using h8
         rw [if_neg h8];clear h8
         have e:decide (n=0)=(n == 0):=by rw [Bool.eq_iff_iff];simp
         rw [e];clear e
         go_enter Try.func104,Try.ntmps104
         go_wp2_with (fail)
         go_ret
         exact aZ4 rfl
theorem aZG {w:World} {a:Addr} {v:Value} (h:w.cell? a=some v):a.block<w.heap.size:=by
  cases hb:w.heap[a.block]? with
  | none=>simp [World.cell?,hb] at h
  | some o=>exact aZd hb
theorem ixs (s:ByteArray) (j:Int) (h0:0≤j) (hj:j<s.size) (W:World):(Instr.index 9 (.string s) (.int .i64 j)).run Try.prog W=.ok (.int .u8 (bt s j)) W:=by
  have h1:j.toNat<s.size:=by omega
  simp [Instr.index,run_underlying Try.underlying9,asIntOf,go_sem,bt,h1,h0]
def rowsL:List S165:=(audit_rows.f).getD []
theorem rows_some:audit_rows.f=some rowsL:=rfl
theorem rowsL_len:rowsL.length=37:=by decide +kernel
theorem rowsL_sizes:∀ i:_root_.Fin 37,0<i.1→(rowsL.getD i.1 z165).f0.size=3∧(rowsL.getD i.1 z165).f1.size≤2∧(rowsL.getD i.1 z165).f2.size≤1:=by decide +kernel
theorem bZI (op:Int) (h0:1≤op) (h1:op≤36):(aZg rowsL op).f0.size=3∧(aZg rowsL op).f1.size≤2∧(aZg rowsL op).f2.size≤1 :=
  rowsL_sizes ⟨op.toNat,by omega⟩ (by show 0<op.toNat;omega)
def cZ1 (n i:Nat) (op a:Int):Int:=if (op=33∨op=34)∧(a≤i∨n≤a) then 213 else if op=36↔i+1=n then 0 else 219
theorem form213 (n i:Nat) (op a:Int) (h:op=33∨op=34) (h2:a≤i∨n≤a):cZ1 n i op a=213:=if_pos ⟨h,h2⟩
theorem form0 (n i:Nat) (op a:Int) (h:¬((op=33∨op=34)∧(a≤i∨n≤a))) (h2:op=36↔i+1=n):cZ1 n i op a=0:=by
  unfold cZ1;rw [if_neg h,if_pos h2]
theorem hZa (n i:Nat) (op a:Int) (h:¬((op=33∨op=34)∧(a≤i∨n≤a))) (h2:¬(op=36↔i+1=n)):cZ1 n i op a=219:=by
  unfold cZ1;rw [if_neg h,if_neg h2]
def bZi (k:Wk) (i:Nat):Int :=
  if (aZi k.C i).f0<1∨36<(aZi k.C i).f0 then 211
  else if bZk k (bt (aZg rowsL (aZi k.C i).f0).f0 0) (aZi k.C i).f1=false∨bZk k (bt (aZg rowsL (aZi k.C i).f0).f0 1) (aZi k.C i).f2=false∨bZk k (bt (aZg rowsL (aZi k.C i).f0).f0 2) (aZi k.C i).f3=false then 212
  else cZ1 k.C.length i (aZi k.C i).f0 (aZi k.C i).f1
theorem cZ6 {k:IntKind} {a b:Int} (h:a=b):Ending.returned (.int k a)=Ending.returned (.int k b):=by rw [h]
theorem form_any (k:Wk) (W:World) (tv:Value) (most:Int) (h:k.blk W tv most) (hC:Kd.C k66 W k.a4 k.C.length k.C) (hR:Kd.C k165 W k.ar 37 rowsL) (i:Nat) (hi:i<k.C.length) (hn:k.C.length≤32768) :
 Calls Try.prog 92 #[.pointer (some ⟨k.g,0,none⟩),.int .i64 i] W fun e w'=>e=.returned (.int .i64 (bZi k i))∧Below W.heap.size W w':=by
 obtain ⟨q0,q1,q2,q3,q4,q5,q6,q7,-⟩:=Wk.cells h
 obtain ⟨ad,ha,x0,x1,x2,x3⟩:=eZY hC (i:Int) (by omega) (by omega)
 rw [ha] at q4
 rw [Int.toNat_natCast] at x0 x1 x2 x3
 have hsz:=bZI (aZi k.C i).f0
 have hrow:=cZZ hR (aZi k.C i).f0
 unfold bZi
 generalize aZi k.C i=x at x0 x1 x2 x3 hsz hrow
 clear hC hR
 by_cases hlo:x.f0<1
 ·
  rw [if_pos (Or.inl hlo)]
  go_enter Try.func92,Try.ntmps92
  go_wp2_with (fail)
  go_ret
  exact ⟨rfl,aZa (Below.refl _ _) _⟩
 by_cases hhi:36<x.f0
 ·
  rw [if_pos (Or.inr hhi)]
  have h1:1≤x.f0:=by omega
  have d1:decide (x.f0 > 36)=true:=decide_eq_true hhi
  go_enter Try.func92,Try.ntmps92
  go_wp2_with (fail)
  go_ret
  exact ⟨rfl,aZa (Below.refl _ _) _⟩
 rw [if_neg (by omega)]
 have h1:1≤x.f0:=by omega
 have h2:x.f0≤36:=by omega
 clear hlo hhi
 obtain ⟨ar,har,r0,-,-⟩:=hrow (by omega) (by omega)
 obtain ⟨hs,-,-⟩:=hsz h1 h2
 clear hsz hrow
 rw [har] at q7
 generalize (aZg rowsL x.f0).f0=s at r0 hs
 have b0:=ixs s 0 (by omega) (by omega)
 have b1:=ixs s 1 (by omega) (by omega)
 have b2:=ixs s 2 (by omega) (by omega)
 clear hs
 have o0:=fun (W:World) (h:k.blk W tv most)=>dZw k W tv most h (bt s 0) x.f1
 have o1:=fun (W:World) (h:k.blk W tv most)=>dZw k W tv most h (bt s 1) x.f2
 have o2:=fun (W:World) (h:k.blk W tv most)=>dZw k W tv most h (bt s 2) x.f3
 generalize bZk k (bt s 0) x.f1=v0 at o0
 generalize bZk k (bt s 1) x.f2=v1 at o1
 generalize bZk k (bt s 2) x.f3=v2 at o2
 go_enter Try.func92,Try.ntmps92
 go_wp2_with (fail)
 have hB:Below W.heap.size W ((W.alloc (.cells #[.int .i64 x.f0,.int .i64 x.f1,.int .i64 x.f2,.int .i64 x.f3] 66)).alloc (.cells #[.int .i64 x.f1,.int .i64 x.f2,.int .i64 x.f3] 3)):=aZa (aZa (Below.refl _ _) _) _
 have hb:k.blk ((W.alloc (.cells #[.int .i64 x.f0,.int .i64 x.f1,.int .i64 x.f2,.int .i64 x.f3] 66)).alloc (.cells #[.int .i64 x.f1,.int .i64 x.f2,.int .i64 x.f3] 3)) tv most:=(hB.block _ (aZd h)).trans h
 have y:=(heap_alloc_old (W.alloc (.cells #[.int .i64 x.f0,.int .i64 x.f1,.int .i64 x.f2,.int .i64 x.f3] 66)) (.cells #[.int .i64 x.f1,.int .i64 x.f2,.int .i64 x.f3] 3) (show W.heap.size < _ by simp)).trans (heap_alloc_new W (.cells #[.int .i64 x.f0,.int .i64 x.f1,.int .i64 x.f2,.int .i64 x.f3] 66))
 have z:=heap_alloc_new (W.alloc (.cells #[.int .i64 x.f0,.int .i64 x.f1,.int .i64 x.f2,.int .i64 x.f3] 66)) (.cells #[.int .i64 x.f1,.int .i64 x.f2,.int .i64 x.f3] 3)
 have r:=(hB.cell (aZG r0)).trans r0
 have lz:=hB.size
 rw [World.size_alloc] at z
 generalize hW:((W.alloc (.cells #[.int .i64 x.f0,.int .i64 x.f1,.int .i64 x.f2,.int .i64 x.f3] 66)).alloc (.cells #[.int .i64 x.f1,.int .i64 x.f2,.int .i64 x.f3] 3))=W2 at hB hb y z r lz ⊢
 clear hW h q0 q1 q2 q3 q5 q6 q4 x0 x1 x2 x3 q7 r0
 have y0:W2.cell? ⟨W.heap.size,0,none⟩=some (.int .i64 x.f0):=by simp [World.cell?,y]
 have y1:W2.cell? ⟨W.heap.size,1,none⟩=some (.int .i64 x.f1):=by simp [World.cell?,y]
 have z0:W2.cell? ⟨W.heap.size+1,0,none⟩=some (.int .i64 x.f1):=by simp [World.cell?,z]
 have z1:W2.cell? ⟨W.heap.size+1,1,none⟩=some (.int .i64 x.f2):=by simp [World.cell?,z]
 have z2:W2.cell? ⟨W.heap.size+1,2,none⟩=some (.int .i64 x.f3):=by simp [World.cell?,z]
 clear y z
 obtain ⟨-,-,-,-,q4,-,-,q7,-⟩:=Wk.cells hb
 rw [har] at q7
 rw [ha] at q4
 go_loopw [32] (fun j wr=>∃ (c n:Nat),c≤3∧j=.int .i64 c∧Hid (wr=W2.drewN n)∧Hid ((0<c→v0=true)∧(1<c→v1=true)∧(2<c→v2=true))) (fun j _=>3 - (intOf j).toNat)
 case atStart=>exact ⟨0,0,by omega,rfl,hid_ rfl,hid_ ⟨fun h=>absurd h (by omega),fun h=>absurd h (by omega),fun h=>absurd h (by omega)⟩⟩
 case round =>
  have i0:0≤x.f0:=by omega
  have i1:x.f0<37:=by omega
  obtain ⟨c,n,hc,rfl,HW,HV⟩:=hrel
  have hb:k.blk wr tv most:=by rw [HW.out];exact hb
  have y0:wr.cell? ⟨W.heap.size,0,none⟩=some (.int .i64 x.f0):=by rw [HW.out];exact y0
  have y1:wr.cell? ⟨W.heap.size,1,none⟩=some (.int .i64 x.f1):=by rw [HW.out];exact y1
  have z0:wr.cell? ⟨W.heap.size+1,0,none⟩=some (.int .i64 x.f1):=by rw [HW.out];exact z0
  have z1:wr.cell? ⟨W.heap.size+1,1,none⟩=some (.int .i64 x.f2):=by rw [HW.out];exact z1
  have z2:wr.cell? ⟨W.heap.size+1,2,none⟩=some (.int .i64 x.f3):=by rw [HW.out];exact z2
  have r:wr.cell? (ar.add (x.f0.toNat*3))=some (.string s):=by rw [HW.out];exact r
  have hB:Below W.heap.size W wr:=by rw [HW.out];exact aZb hB n
  obtain ⟨-,-,-,-,q4,-,-,q7,-⟩:=Wk.cells hb
  rw [har] at q7
  rw [ha] at q4
  have hcs:c=0∨c=1∨c=2∨c=3:=by omega
  rcases hcs with rfl|rfl|rfl|rfl
  ·
   have hk:=o0
   clear o0 o1 o2
   cases v0 with
   | true =>
    go_wp2_with (fail)
    go_quiet ((go_at_call 104;exact Calls.quiet_of_same (hk _ hb)))
    go_wp2_with (fail)
    go_roundw
    case rel=>exact ⟨1,_,by omega,by go_num,hid_ (by rw [HW.out,World.drewN_drewN]),hid_ ⟨by first|trivial|exact fun _=>rfl|simp,by first|trivial|exact fun h=>absurd h (by omega)|simp,by first|trivial|exact fun h=>absurd h (by omega)|simp⟩⟩
    case measure=>simp [intOf]
   | false =>
    go_wp2_with (fail)
    go_quiet ((go_at_call 104;exact Calls.quiet_of_same (hk _ hb)))
    go_wp2_with (fail)
    go_ret
    refine ⟨?_,?_⟩
    · first|rfl|(rw [if_pos (by simp)])
    · exact aZb hB _
  ·
   have hk:=o1
   clear o0 o1 o2
   cases v1 with
   | true =>
    go_wp2_with (fail)
    go_quiet ((go_at_call 104;exact Calls.quiet_of_same (hk _ hb)))
    go_wp2_with (fail)
    go_roundw
    case rel=>exact ⟨2,_,by omega,by go_num,hid_ (by rw [HW.out,World.drewN_drewN]),hid_ ⟨by first|trivial|exact fun _=>HV.out.1 (by omega)|simp,by first|trivial|exact fun _=>rfl|simp,by first|trivial|exact fun h=>absurd h (by omega)|simp⟩⟩
    case measure=>simp [intOf]
   | false =>
    go_wp2_with (fail)
    go_quiet ((go_at_call 104;exact Calls.quiet_of_same (hk _ hb)))
    go_wp2_with (fail)
    go_ret
    refine ⟨?_,?_⟩
    · first|rfl|(rw [if_pos (by simp)])
    · exact aZb hB _
  ·
   have hk:=o2
   clear o0 o1 o2
   cases v2 with
   | true =>
    go_wp2_with (fail)
    go_quiet ((go_at_call 104;exact Calls.quiet_of_same (hk _ hb)))
    go_wp2_with (fail)
    go_roundw
    case rel=>exact ⟨3,_,by omega,by go_num,hid_ (by rw [HW.out,World.drewN_drewN]),hid_ ⟨by first|trivial|exact fun _=>HV.out.1 (by omega)|simp,by first|trivial|exact fun _=>HV.out.2.1 (by omega)|simp,by first|trivial|exact fun _=>rfl|simp⟩⟩
    case measure=>simp [intOf]
   | false =>
    go_wp2_with (fail)
    go_quiet ((go_at_call 104;exact Calls.quiet_of_same (hk _ hb)))
    go_wp2_with (fail)
    go_ret
    refine ⟨?_,?_⟩
    · first|rfl|(rw [if_pos (by simp)])
    · exact aZb hB _
  ·
   obtain ⟨e0,e1,e2⟩:=HV.out
   obtain rfl:=e0 (by omega)
   obtain rfl:=e1 (by omega)
   obtain rfl:=e2 (by omega)
   clear e0 e1 e2 o0 o1 o2 HV b0 b1 b2 z0 z1 z2 r
   by_cases hj:x.f0=33∨x.f0=34
   ·
    have HJ:=hid_ hj
    have e36:(x.f0 == 36)=false:=by rw [beq_eq_false_iff_ne];omega
    have ej:((x.f0 == 33)=true)∨((x.f0 == 33)=false∧(x.f0 == 34)=true):=by rcases hj with h|h <;> simp [h]
    clear hj
    by_cases hle:x.f1≤(i:Int)
    ·
     have HE:=hid_ (form213 k.C.length i x.f0 x.f1 HJ.out (.inl hle))
     rcases ej with e33 | ⟨e33,e34⟩
     all_goals
      go_wp2_with (fail)
      go_quiet (fail)
      go_wp2_with (fail)
      go_ret
      exact ⟨cZ6 HE.out.symm,aZb hB _⟩
    ·
     have dle:decide (x.f1≤(i:Int))=false:=decide_eq_false hle
     by_cases hge:(k.C.length:Int)≤x.f1
     ·
      have HE:=hid_ (form213 k.C.length i x.f0 x.f1 HJ.out (.inr hge))
      have dge:decide (x.f1≥(k.C.length:Int))=true:=decide_eq_true hge
      clear hle
      rcases ej with e33 | ⟨e33,e34⟩
      all_goals
       go_wp2_with (fail)
       go_quiet (fail)
       go_wp2_with (fail)
       go_ret
       exact ⟨cZ6 HE.out.symm,aZb hB _⟩
     ·
      have dge:decide (x.f1≥(k.C.length:Int))=false:=decide_eq_false hge
      have hno:¬((x.f0=33∨x.f0=34)∧(x.f1≤i∨(k.C.length:Int)≤x.f1)):=by omega
      have HN:=hid_ hno
      have H36:Hid (¬x.f0=36):=hid_ (by have:=HJ.out;omega)
      clear hle hge hno
      by_cases hl:i+1=k.C.length
      ·
       have el:((i:Int) == (k.C.length:Int) - 1)=true:=by rw [beq_iff_eq];omega
       have HE:=hid_ (hZa k.C.length i x.f0 x.f1 HN.out (fun h=>H36.out (h.2 hl)))
       have ew:IntKind.i64.wrap ((k.C.length:Int) - 1)=(k.C.length:Int) - 1:=IntWalk.i64_in _ ⟨by omega,by omega⟩
       clear hl
       rcases ej with e33 | ⟨e33,e34⟩
       all_goals
        go_wp2_with (fail)
        go_quiet (fail)
        go_wp2_with (fail)
        go_quiet (fail)
        go_wp2_with (fail)
        go_ret
        exact ⟨cZ6 HE.out.symm,by first|exact aZb hB _|(rw [World.drewN_drewN];exact aZb hB _)⟩
      ·
       have el:((i:Int) == (k.C.length:Int) - 1)=false:=by rw [beq_eq_false_iff_ne];omega
       have HE:=hid_ (form0 k.C.length i x.f0 x.f1 HN.out ⟨fun h=>absurd h H36.out,fun h=>absurd h hl⟩)
       have ew:IntKind.i64.wrap ((k.C.length:Int) - 1)=(k.C.length:Int) - 1:=IntWalk.i64_in _ ⟨by omega,by omega⟩
       clear hl
       rcases ej with e33 | ⟨e33,e34⟩
       all_goals
        go_wp2_with (fail)
        go_quiet (fail)
        go_wp2_with (fail)
        go_quiet (fail)
        go_wp2_with (fail)
        go_ret
        exact ⟨cZ6 HE.out.symm,by first|exact aZb hB _|(rw [World.drewN_drewN];exact aZb hB _)⟩
   ·
    have e33:(x.f0 == 33)=false:=by rw [beq_eq_false_iff_ne];omega
    have e34:(x.f0 == 34)=false:=by rw [beq_eq_false_iff_ne];omega
    have HN:Hid (¬((x.f0=33∨x.f0=34)∧(x.f1≤i∨(k.C.length:Int)≤x.f1))):=hid_ (fun h=>hj h.1)
    have ew:IntKind.i64.wrap ((k.C.length:Int) - 1)=(k.C.length:Int) - 1:=IntWalk.i64_in _ ⟨by omega,by omega⟩
    clear hj
    by_cases h36:x.f0=36
    ·
     have e36:(x.f0 == 36)=true:=by rw [beq_iff_eq];exact h36
     by_cases hl:i+1=k.C.length
     ·
      have el:((i:Int) == (k.C.length:Int) - 1)=true:=by rw [beq_iff_eq];clear ew;omega
      have HE:=hid_ (form0 k.C.length i x.f0 x.f1 HN.out ⟨fun _=>hl,fun _=>h36⟩)
      clear hl h36
      go_wp2_with (fail)
      go_quiet (fail)
      go_wp2_with (fail)
      go_quiet (fail)
      go_wp2_with (fail)
      go_ret
      exact ⟨cZ6 HE.out.symm,by first|exact aZb hB _|(rw [World.drewN_drewN];exact aZb hB _)⟩
     ·
      have el:((i:Int) == (k.C.length:Int) - 1)=false:=by rw [beq_eq_false_iff_ne];clear ew;omega
      have HE:=hid_ (hZa k.C.length i x.f0 x.f1 HN.out (fun h=>hl (h.1 h36)))
      clear hl h36
      go_wp2_with (fail)
      go_quiet (fail)
      go_wp2_with (fail)
      go_quiet (fail)
      go_wp2_with (fail)
      go_ret
      exact ⟨cZ6 HE.out.symm,by first|exact aZb hB _|(rw [World.drewN_drewN];exact aZb hB _)⟩
    ·
     have e36:(x.f0 == 36)=false:=by rw [beq_eq_false_iff_ne];exact h36
     by_cases hl:i+1=k.C.length
     ·
      have el:((i:Int) == (k.C.length:Int) - 1)=true:=by rw [beq_iff_eq];clear ew;omega
      have HE:=hid_ (hZa k.C.length i x.f0 x.f1 HN.out (fun h=>h36 (h.2 hl)))
      clear hl h36
      go_wp2_with (fail)
      go_quiet (fail)
      go_wp2_with (fail)
      go_quiet (fail)
      go_wp2_with (fail)
      go_ret
      exact ⟨cZ6 HE.out.symm,by first|exact aZb hB _|(rw [World.drewN_drewN];exact aZb hB _)⟩
     ·
      have el:((i:Int) == (k.C.length:Int) - 1)=false:=by rw [beq_eq_false_iff_ne];clear ew;omega
      have HE:=hid_ (form0 k.C.length i x.f0 x.f1 HN.out ⟨fun h=>absurd h h36,fun h=>absurd h hl⟩)
      clear hl h36
      go_wp2_with (fail)
      go_quiet (fail)
      go_wp2_with (fail)
      go_quiet (fail)
      go_wp2_with (fail)
      go_ret
      exact ⟨cZ6 HE.out.symm,by first|exact aZb hB _|(rw [World.drewN_drewN];exact aZb hB _)⟩
end Go.Proofs.Ytbnplhmmbnmagaa.D
