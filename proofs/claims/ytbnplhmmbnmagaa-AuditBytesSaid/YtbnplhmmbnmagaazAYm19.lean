/- The reader's walks: list, at its four types. -/
import Derived.Test.YtbnplhmmbnmagaazAYm18
import Derived.Test.YtbnplhmmbnmagaazAYm2
import Derived.Test.YtbnplhmmbnmagaazAYm4
import Derived.Test.YtbnplhmmbnmagaazAYm3
import Derived.Test.YtbnplhmmbnmagaazAYm5
import Derived.Test.YtbnplhmmbnmagaazAYm6
import Derived.Test.YtbnplhmmbnmagaazAYm7
import Derived.Test.YtbnplhmmbnmagaazAYm8
set_option maxHeartbeats 4000000
set_option maxRecDepth 100000
set_option linter.unusedVariables false
set_option linter.unusedSimpArgs false
namespace Go.Proofs.Ytbnplhmmbnmagaa.D
open Go.RowKit Go.Proofs.YtbnplhmmbnmagaaW.PrintWords Go.Proofs.YtbnplhmmbnmagaaW.PrintLast Go.Proofs.YtbnplhmmbnmagaaW.PrintMore Go.Proofs.Ytbnplhmmbnmagaa.All
def aZr {α:Type} (z:α) (one:Int→Except (Int × Int) (α × Int)) (cmp:α→α→Int):Nat→Int→List α→Except (Int × Int) (List α × Int)
  | 0,q,acc=>.ok (acc,q)
  | d+1,q,acc =>
    match one q with
    | .error f=>.error f
    | .ok (x,q2)=>if 0<acc.length∧0≤cmp (acc.getD (acc.length - 1) z) x then .error (204,q) else aZr z one cmp d q2 (acc++[x])
def aZO {α:Type} (z:α) (one:Int→Except (Int × Int) (α × Int)) (cmp:α→α→Int) (bs:List Int) (p lo hi:Int):Except (Int × Int) (List α × Int) :=
  match aZm bs p lo hi with
  | .error f=>.error f
  | .ok (n,q)=>aZr z one cmp n.toNat q []
def dZk {α:Type} (bs:List Int) (one:Int→Except (Int × Int) (α × Int)):Prop:=∀ p x q,0≤p→one p=.ok (x,q)→p<q∧q≤bs.length
theorem Rd.grown {w wr w2:World} {R:Nat} {A:Option Addr} {c:Nat} {bs:List Int} {p:Int} {row:Option Nat} (h:Rd w wr R A c bs p) (hg:wr.grownBy w2 row) (hr:∀ k,row=some k→w.heap.size≤k) (hR:R<w.heap.size):Rd w w2 R A c bs p :=
  ⟨h.below.grown hg (Nat.le_of_lt h.lt) (fun k e=>by have:=hr k e;omega),Kept.of_grown hg h.kept (fun k e=>.inr (hr k e)),(hg.block R h.lt (fun e=>by have:=hr R e.symm;omega)).trans h.blk,h.row⟩
theorem bZu {α:Type} {d:Kd α} {e:Nat} {w wr w1:World} {R:Nat} {A:Option Addr} {c:Nat} {bs:List Int} {q:Int} {v:Value} {xs:List α} (h:d.R e wr w.heap.size (fun _=>True) v xs) (hR:R<w.heap.size) (hr:Rd wr w1 R A c bs q):d.R e w1 w.heap.size (fun _=>True) v xs :=
  Kd.R_mono (Kd.R_kept (Kd.R_bound h) hr.kept (fun k hk e=>by have:=hk.2.1;omega)) (fun _ _=>trivial)
theorem list73 (w:World) (R:Nat) (A:Option Addr) (c:Nat) (bs:List Int) (p lo hi:Int) (h:Rd w w R A c bs p) (hp:0≤p) (hp2:p≤bs.length) (G:Good bs) (hlo:0≤lo) (hlo2:lo≤1000) (hhi:hi≤32768) (hhi0:0≤hi) (one:Int→Except (Int × Int) (ByteArray × Int)) (cmp:ByteArray→ByteArray→Int) (hah:dZk bs one)
 (hone:∀ (wr:World) (q:Int),Rd w wr R A c bs q→0≤q→q≤bs.length→Calls Try.prog 84 #[.pointer (some ⟨R,0,none⟩)] wr (Fin wr R A c bs (one q) (fun x v _=>v=.string x)))
 (hcmp:∀ (a b:ByteArray) (w:World),Calls Try.prog 71 #[.string a,.string b] w fun e w'=>e=.returned (.int .i64 (cmp a b))∧Drawn0 w w') :
 Calls Try.prog 83 #[.pointer (some ⟨R,0,none⟩),.int .i64 lo,.int .i64 hi,.func (.func 84) #[.pointer (some ⟨R,0,none⟩)] #[],.func (.func 71) #[] #[]] w (Fin w R A c bs (aZO ByteArray.empty one cmp bs p lo hi) (fun x v w'=>Kd.string.R 9 w' w.heap.size (fun _=>True) v x)):=by
 have hlen:=G.len
 have HC:=bZs w R A c bs p lo hi h hp hp2 G.byte G.len (by omega) (by omega)
 unfold aZO
 cases hc:aZm bs p lo hi with
 | error f =>
  rw [hc] at HC
  clear hc
  go_enter Try.func83,Try.ntmps83
  go_wp2_with ((with_reducible refine HC.mono ?_);intro e w' hf;obtain ⟨ps,rfl⟩:=hf.pan)
  exact ⟨rfl,hf.err rfl⟩
 | ok xq =>
  obtain ⟨n,q0⟩:=xq
  obtain ⟨x1,x2,x3,x4⟩:=aZt hc
  rw [hc] at HC
  clear hc
  dsimp only
  obtain ⟨N,rfl⟩:=Int.eq_ofNat_of_zero_le (show 0≤n by omega)
  rw [Int.toNat_natCast]
  generalize hF:aZr ByteArray.empty one cmp N q0 []=F
  have HF:=hid_ hF;clear hF
  go_enter Try.func83,Try.ntmps83
  go_wp2_with ((with_reducible refine HC.mono ?_);rintro e w' ⟨v,rfl,rfl,hr⟩)
  have hRlt:=h.lt
  go_loopw [12,24] (fun out i wr=>∃ (k:Nat) (q:Int) (acc:List ByteArray),k≤N∧i=.int .i64 k∧acc.length=k∧0≤q∧q≤bs.length∧Rd w wr R A c bs q∧Kd.string.R 9 wr w.heap.size (fun _=>True) out acc∧aZr ByteArray.empty one cmp (N - k) q acc=F) (fun _ i _=>N - (intOf i).toNat)
  case atStart=>exact ⟨0,q0,[],by omega,rfl,rfl,by omega,by omega,hr,Kd.R_nil _ _ _ _ _,HF.out⟩
  case round =>
   clear HC
   obtain ⟨k,q,acc,hk,rfl,hak,hq,hq2,hr2,hrow,he⟩:=hrel
   have HE:=hid_ he;clear he
   have HAK:=hid_ hak;clear hak
   obtain ⟨c0,c1,z1⟩:=hr2.cells
   by_cases hlt:k<N
   ·
    have HO:=hone wr q hr2 hq hq2
    have hstep:aZr ByteArray.empty one cmp (N - k) q acc=aZr ByteArray.empty one cmp ((N - k - 1)+1) q acc:=by congr 1;omega
    cases ho:one q with
    | error f =>
     rw [ho] at HO
     rw [hstep] at HE
     have he:=HE.out
     unfold aZr at he
     rw [ho] at he
     have HE2:=hid_ he.symm
     clear HE he hstep ho
     go_wp2_with ((with_reducible refine HO.mono ?_);intro e w' hf;obtain ⟨ps,rfl⟩:=hf.pan)
     exact ⟨rfl,Fin.trans hr2 (hf.err HE2.out)⟩
    | ok xq =>
     obtain ⟨x,q2⟩:=xq
     obtain ⟨hqq,hqq2⟩:=hah q x q2 hq ho
     rw [ho] at HO
     rw [hstep] at HE
     have he:=HE.out
     unfold aZr at he
     rw [ho] at he
     dsimp only at he
     have HE2:=hid_ he
     clear HE he hstep ho
     have hold:∀ g,u12.ownBlock=some g→g<wr.heap.size:=fun g hg=>((Kd.R_bound hrow).1 g hg).2.2.1
     by_cases hk0:k=0
     ·
      subst hk0
      have HE3:=HE2.out
      rw [if_neg (fun h=>by have:=h.1;rw [HAK.out] at this;omega)] at HE3
      have HE4:=hid_ HE3
      clear HE2 HE3
      go_wp2_with (first
       | ((with_reducible refine HO.mono ?_);rintro e w1 ⟨v,rfl,rfl,hr3⟩;have hrow3:=bZu hrow hRlt hr3)
       | ((with_reducible refine aZh (b:=.append) (xs:=#[.tmp 48,.tmp 50]) rfl ?_);at_builtin;refine Kd.R_append Kd.string (w0:=w1) w.heap.size rfl (.tmp 48) (.tmp 50) 22 9 (.string ⟨#[]⟩) 16 rfl Try.underlying22 info9 rfl (by decide) (by omega) _ acc x [.string x] (fun _=>True) (fun _=>False) rfl rfl rfl (fun _ hk=>hk.elim) (fun _ _=>trivial) hrow3 (Below.refl _ _) (Nat.le_trans hr2.kept.1 hr3.kept.1) (by rw [HAK.out];omega) ?_;intro out2 w3 hrow4 hb4 hg4 _))
      have hr4:=(hr2.trans hr3).grown hg4 (Kd.R_base hrow3) hRlt
      go_roundw
      case rel=>exact ⟨1,q2,acc++[x],by omega,rfl,by simp [HAK.out],by omega,hqq2,hr4,hrow4,HE4.out⟩
      case measure=>simp [intOf];omega
     ·
      obtain ⟨Ao,co,rfl,hco,hread⟩:=Kd.R_reads hrow
      have hk1:((k:Int) - 1).toNat=k - 1:=by omega
      have HE3:=HE2.out
      rw [HAK.out] at HE3
      have HE4:=hid_ HE3
      clear HE2 HE3 hread
      generalize hy:acc.getD (k - 1) ByteArray.empty=y at HE4
      have HY:=hid_ hy;clear hy
      have hcells:∀ w1,Kd.string.R 9 w1 w.heap.size (fun _=>True) (.slice Ao acc.length co) acc→∃ ad,Ao=some ad∧w1.cell? (ad.add (k - 1))=some (.string y):=by
       intro w1 hrow3
       obtain ⟨ad,cs,e,hcl,hck,hcc⟩:=Kd.C_get (Kd.R_reads' hrow3).2.2 ByteArray.empty ((k:Int) - 1) (by omega) (by rw [HAK.out];omega)
       rw [hk1,HY.out] at hck
       have hs:Kd.string.sz=1:=rfl
       have h2:=hcc 0 _ (by rw [hck];rfl)
       rw [hs,Nat.mul_one,Nat.add_zero,hk1] at h2
       exact ⟨ad,e,h2⟩
      have hb1:(k:Int) - 1<acc.length:=by rw [HAK.out];omega
      have hb0:0≤(k:Int) - 1:=by omega
      clear hk1
      by_cases hge:0≤cmp y x
      ·
       have he:Except.error (204,q)=F:=by rw [←HE4.out,if_pos ⟨by omega,hge⟩]
       have HE5:=hid_ he.symm
       clear HE4 he
       go_wp2_with (first
        | ((with_reducible refine HO.mono ?_);rintro e w1 ⟨v,rfl,rfl,hr3⟩;have hrow3:=bZu hrow hRlt hr3;obtain ⟨ad,rfl,hcell⟩:=hcells w1 hrow3)
        | ((with_reducible refine (hcmp y x _).mono ?_);rintro e w2 ⟨rfl,⟨nd,rfl⟩⟩)
        | ((with_reducible refine (aZ3 _ _ _).mono ?_);rintro e w2 ⟨rfl,rfl⟩))
       exact ⟨rfl,Fin.fail ((hr2.trans hr3).drewN nd) rfl HE5.out⟩
      ·
       have he:=HE4.out
       rw [if_neg (fun h=>hge h.2)] at he
       have HE5:=hid_ he
       clear HE4 he
       go_wp2_with (first
        | ((with_reducible refine HO.mono ?_);rintro e w1 ⟨v,rfl,rfl,hr3⟩;have hrow3:=bZu hrow hRlt hr3;obtain ⟨ad,rfl,hcell⟩:=hcells w1 hrow3)
        | ((with_reducible refine (hcmp y x _).mono ?_);rintro e w2 ⟨rfl,⟨nd,rfl⟩⟩)
        | ((with_reducible refine aZh (b:=.append) (xs:=#[.tmp 48,.tmp 50]) rfl ?_);at_builtin;refine Kd.R_append Kd.string (w0:=w1.drewN nd) w.heap.size rfl (.tmp 48) (.tmp 50) 22 9 (.string ⟨#[]⟩) 16 rfl Try.underlying22 info9 rfl (by decide) (by omega) _ acc x [.string x] (fun _=>True) (fun _=>False) rfl rfl rfl (fun _ hk=>hk.elim) (fun _ _=>trivial) (Kd.R_drewN hrow3 nd) (Below.refl _ _) (Nat.le_trans hr2.kept.1 hr3.kept.1) (by rw [HAK.out];omega) ?_;intro out2 w3 hrow4 hb4 hg4 _))
       have hr4:=((hr2.trans hr3).drewN nd).grown hg4 (Kd.R_base hrow3) hRlt
       go_roundw
       case rel=>exact ⟨k+1,q2,acc++[x],by omega,by go_num,by simp [HAK.out],by omega,hqq2,hr4,hrow4,by rw [show N - (k+1)=N - k - 1 from by omega];exact HE5.out⟩
       case measure=>simp [intOf];omega
   ·
    obtain rfl:k=N:=by omega
    have hd:k - k=0:=by omega
    rw [hd] at HE
    have he:Except.ok (acc,q)=F:=HE.out
    clear HE hd
    subst he
    go_wp2_with (fail)
    go_ret
    exact ⟨_,rfl,hrow,hr2⟩
theorem list75 (w:World) (R:Nat) (A:Option Addr) (c:Nat) (bs:List Int) (p lo hi:Int) (h:Rd w w R A c bs p) (hp:0≤p) (hp2:p≤bs.length) (G:Good bs) (hlo:0≤lo) (hlo2:lo≤1000) (hhi:hi≤32768) (hhi0:0≤hi) (one:Int→Except (Int × Int) (Int × Int)) (cmp:Int→Int→Int) (hah:dZk bs one)
 (hone:∀ (wr:World) (q:Int),Rd w wr R A c bs q→0≤q→q≤bs.length→Calls Try.prog 86 #[.pointer (some ⟨R,0,none⟩)] wr (Fin wr R A c bs (one q) (fun x v _=>v=.int .i64 x)))
 (hcmp:∀ (a b:Int) (w:World),Calls Try.prog 75 #[.int .i64 a,.int .i64 b] w fun e w'=>e=.returned (.int .i64 (cmp a b))∧Drawn0 w w') :
 Calls Try.prog 85 #[.pointer (some ⟨R,0,none⟩),.int .i64 lo,.int .i64 hi,.func (.func 86) #[.pointer (some ⟨R,0,none⟩)] #[],.func (.func 75) #[] #[]] w (Fin w R A c bs (aZO 0 one cmp bs p lo hi) (fun x v w'=>(Kd.int .i64).R 3 w' w.heap.size (fun _=>True) v x)):=by
 have hlen:=G.len
 have HC:=bZs w R A c bs p lo hi h hp hp2 G.byte G.len (by omega) (by omega)
 unfold aZO
 cases hc:aZm bs p lo hi with
 | error f =>
  rw [hc] at HC
  clear hc
  go_enter Try.func85,Try.ntmps85
  go_wp2_with ((with_reducible refine HC.mono ?_);intro e w' hf;obtain ⟨ps,rfl⟩:=hf.pan)
  exact ⟨rfl,hf.err rfl⟩
 | ok xq =>
  obtain ⟨n,q0⟩:=xq
  obtain ⟨x1,x2,x3,x4⟩:=aZt hc
  rw [hc] at HC
  clear hc
  dsimp only
  obtain ⟨N,rfl⟩:=Int.eq_ofNat_of_zero_le (show 0≤n by omega)
  rw [Int.toNat_natCast]
  generalize hF:aZr 0 one cmp N q0 []=F
  have HF:=hid_ hF;clear hF
  go_enter Try.func85,Try.ntmps85
  go_wp2_with ((with_reducible refine HC.mono ?_);rintro e w' ⟨v,rfl,rfl,hr⟩)
  have hRlt:=h.lt
  go_loopw [12,24] (fun out i wr=>∃ (k:Nat) (q:Int) (acc:List Int),k≤N∧i=.int .i64 k∧acc.length=k∧0≤q∧q≤bs.length∧Rd w wr R A c bs q∧(Kd.int .i64).R 3 wr w.heap.size (fun _=>True) out acc∧aZr 0 one cmp (N - k) q acc=F) (fun _ i _=>N - (intOf i).toNat)
  case atStart=>exact ⟨0,q0,[],by omega,rfl,rfl,by omega,by omega,hr,Kd.R_nil _ _ _ _ _,HF.out⟩
  case round =>
   clear HC
   obtain ⟨k,q,acc,hk,rfl,hak,hq,hq2,hr2,hrow,he⟩:=hrel
   have HE:=hid_ he;clear he
   have HAK:=hid_ hak;clear hak
   obtain ⟨c0,c1,z1⟩:=hr2.cells
   by_cases hlt:k<N
   ·
    have HO:=hone wr q hr2 hq hq2
    have hstep:aZr 0 one cmp (N - k) q acc=aZr 0 one cmp ((N - k - 1)+1) q acc:=by congr 1;omega
    cases ho:one q with
    | error f =>
     rw [ho] at HO
     rw [hstep] at HE
     have he:=HE.out
     unfold aZr at he
     rw [ho] at he
     have HE2:=hid_ he.symm
     clear HE he hstep ho
     go_wp2_with ((with_reducible refine HO.mono ?_);intro e w' hf;obtain ⟨ps,rfl⟩:=hf.pan)
     exact ⟨rfl,Fin.trans hr2 (hf.err HE2.out)⟩
    | ok xq =>
     obtain ⟨x,q2⟩:=xq
     obtain ⟨hqq,hqq2⟩:=hah q x q2 hq ho
     rw [ho] at HO
     rw [hstep] at HE
     have he:=HE.out
     unfold aZr at he
     rw [ho] at he
     dsimp only at he
     have HE2:=hid_ he
     clear HE he hstep ho
     have hold:∀ g,u12.ownBlock=some g→g<wr.heap.size:=fun g hg=>((Kd.R_bound hrow).1 g hg).2.2.1
     by_cases hk0:k=0
     ·
      subst hk0
      have HE3:=HE2.out
      rw [if_neg (fun h=>by have:=h.1;rw [HAK.out] at this;omega)] at HE3
      have HE4:=hid_ HE3
      clear HE2 HE3
      go_wp2_with (first
       | ((with_reducible refine HO.mono ?_);rintro e w1 ⟨v,rfl,rfl,hr3⟩;have hrow3:=bZu hrow hRlt hr3)
       | ((with_reducible refine aZh (b:=.append) (xs:=#[.tmp 48,.tmp 50]) rfl ?_);at_builtin;refine Kd.R_append (Kd.int .i64) (w0:=w1) w.heap.size rfl (.tmp 48) (.tmp 50) 23 3 (.int .i64 0) 8 rfl Try.underlying23 info3 rfl (by decide) (by omega) _ acc x [.int .i64 x] (fun _=>True) (fun _=>False) rfl rfl rfl (fun _ hk=>hk.elim) (fun _ _=>trivial) hrow3 (Below.refl _ _) (Nat.le_trans hr2.kept.1 hr3.kept.1) (by rw [HAK.out];omega) ?_;intro out2 w3 hrow4 hb4 hg4 _))
      have hr4:=(hr2.trans hr3).grown hg4 (Kd.R_base hrow3) hRlt
      go_roundw
      case rel=>exact ⟨1,q2,acc++[x],by omega,rfl,by simp [HAK.out],by omega,hqq2,hr4,hrow4,HE4.out⟩
      case measure=>simp [intOf];omega
     ·
      obtain ⟨Ao,co,rfl,hco,hread⟩:=Kd.R_reads hrow
      have hk1:((k:Int) - 1).toNat=k - 1:=by omega
      have HE3:=HE2.out
      rw [HAK.out] at HE3
      have HE4:=hid_ HE3
      clear HE2 HE3 hread
      generalize hy:acc.getD (k - 1) 0=y at HE4
      have HY:=hid_ hy;clear hy
      have hcells:∀ w1,(Kd.int .i64).R 3 w1 w.heap.size (fun _=>True) (.slice Ao acc.length co) acc→∃ ad,Ao=some ad∧w1.cell? (ad.add (k - 1))=some (.int .i64 y):=by
       intro w1 hrow3
       obtain ⟨ad,cs,e,hcl,hck,hcc⟩:=Kd.C_get (Kd.R_reads' hrow3).2.2 0 ((k:Int) - 1) (by omega) (by rw [HAK.out];omega)
       rw [hk1,HY.out] at hck
       have hs:(Kd.int .i64).sz=1:=rfl
       have h2:=hcc 0 _ (by rw [hck];rfl)
       rw [hs,Nat.mul_one,Nat.add_zero,hk1] at h2
       exact ⟨ad,e,h2⟩
      have hb1:(k:Int) - 1<acc.length:=by rw [HAK.out];omega
      have hb0:0≤(k:Int) - 1:=by omega
      clear hk1
      by_cases hge:0≤cmp y x
      ·
       have he:Except.error (204,q)=F:=by rw [←HE4.out,if_pos ⟨by omega,hge⟩]
       have HE5:=hid_ he.symm
       clear HE4 he
       go_wp2_with (first
        | ((with_reducible refine HO.mono ?_);rintro e w1 ⟨v,rfl,rfl,hr3⟩;have hrow3:=bZu hrow hRlt hr3;obtain ⟨ad,rfl,hcell⟩:=hcells w1 hrow3)
        | ((with_reducible refine (hcmp y x _).mono ?_);rintro e w2 ⟨rfl,⟨nd,rfl⟩⟩)
        | ((with_reducible refine (aZ3 _ _ _).mono ?_);rintro e w2 ⟨rfl,rfl⟩))
       exact ⟨rfl,Fin.fail ((hr2.trans hr3).drewN nd) rfl HE5.out⟩
      ·
       have he:=HE4.out
       rw [if_neg (fun h=>hge h.2)] at he
       have HE5:=hid_ he
       clear HE4 he
       go_wp2_with (first
        | ((with_reducible refine HO.mono ?_);rintro e w1 ⟨v,rfl,rfl,hr3⟩;have hrow3:=bZu hrow hRlt hr3;obtain ⟨ad,rfl,hcell⟩:=hcells w1 hrow3)
        | ((with_reducible refine (hcmp y x _).mono ?_);rintro e w2 ⟨rfl,⟨nd,rfl⟩⟩)
        | ((with_reducible refine aZh (b:=.append) (xs:=#[.tmp 48,.tmp 50]) rfl ?_);at_builtin;refine Kd.R_append (Kd.int .i64) (w0:=w1.drewN nd) w.heap.size rfl (.tmp 48) (.tmp 50) 23 3 (.int .i64 0) 8 rfl Try.underlying23 info3 rfl (by decide) (by omega) _ acc x [.int .i64 x] (fun _=>True) (fun _=>False) rfl rfl rfl (fun _ hk=>hk.elim) (fun _ _=>trivial) (Kd.R_drewN hrow3 nd) (Below.refl _ _) (Nat.le_trans hr2.kept.1 hr3.kept.1) (by rw [HAK.out];omega) ?_;intro out2 w3 hrow4 hb4 hg4 _))
       have hr4:=((hr2.trans hr3).drewN nd).grown hg4 (Kd.R_base hrow3) hRlt
       go_roundw
       case rel=>exact ⟨k+1,q2,acc++[x],by omega,by go_num,by simp [HAK.out],by omega,hqq2,hr4,hrow4,by rw [show N - (k+1)=N - k - 1 from by omega];exact HE5.out⟩
       case measure=>simp [intOf];omega
   ·
    obtain rfl:k=N:=by omega
    have hd:k - k=0:=by omega
    rw [hd] at HE
    have he:Except.ok (acc,q)=F:=HE.out
    clear HE hd
    subst he
    go_wp2_with (fail)
    go_ret
    exact ⟨_,rfl,hrow,hr2⟩
theorem list77 (w:World) (R:Nat) (A:Option Addr) (c:Nat) (bs:List Int) (p lo hi:Int) (h:Rd w w R A c bs p) (hp:0≤p) (hp2:p≤bs.length) (G:Good bs) (hlo:0≤lo) (hlo2:lo≤1000) (hhi:hi≤32768) (hhi0:0≤hi) (one:Int→Except (Int × Int) (List ByteArray × Int)) (cmp:List ByteArray→List ByteArray→Int) (hah:dZk bs one) (V:Addr)
 (hone:∀ (wr:World) (q:Int),Rd w wr R A c bs q→0≤q→q≤bs.length→Calls Try.prog 88 #[.pointer (some V)] wr (Fin wr R A c bs (one q) (fun x v w'=>Kd.string.R 9 w' wr.heap.size (fun _=>True) v x)))
 (hcmp:∀ (A0:Option Addr) (c0:Nat) (l0:List ByteArray) (A1:Option Addr) (c1:Nat) (l1:List ByteArray) (w:World),Kd.string.C w A0 l0.length l0→l0.length≤c0→Kd.string.C w A1 l1.length l1→l1.length≤c1→Calls Try.prog 78 #[.slice A0 l0.length c0,.slice A1 l1.length c1] w fun e w'=>e=.returned (.int .i64 (cmp l0 l1))∧Drawn0 w w') :
 Calls Try.prog 87 #[.pointer (some ⟨R,0,none⟩),.int .i64 lo,.int .i64 hi,.func (.func 88) #[] #[.pointer (some V)],.func (.func 78) #[] #[]] w (Fin w R A c bs (aZO [] one cmp bs p lo hi) (fun x v w'=>(Kd.slice 9 Kd.string).R 22 w' w.heap.size (fun _=>True) v x)):=by
 have hlen:=G.len
 have HC:=bZs w R A c bs p lo hi h hp hp2 G.byte G.len (by omega) (by omega)
 unfold aZO
 cases hc:aZm bs p lo hi with
 | error f =>
  rw [hc] at HC
  clear hc
  go_enter Try.func87,Try.ntmps87
  go_wp2_with ((with_reducible refine HC.mono ?_);intro e w' hf;obtain ⟨ps,rfl⟩:=hf.pan)
  exact ⟨rfl,hf.err rfl⟩
 | ok xq =>
  obtain ⟨n,q0⟩:=xq
  obtain ⟨x1,x2,x3,x4⟩:=aZt hc
  rw [hc] at HC
  clear hc
  dsimp only
  obtain ⟨N,rfl⟩:=Int.eq_ofNat_of_zero_le (show 0≤n by omega)
  rw [Int.toNat_natCast]
  generalize hF:aZr [] one cmp N q0 []=F
  have HF:=hid_ hF;clear hF
  go_enter Try.func87,Try.ntmps87
  go_wp2_with ((with_reducible refine HC.mono ?_);rintro e w' ⟨v,rfl,rfl,hr⟩)
  have hRlt:=h.lt
  go_loopw [12,24] (fun out i wr=>∃ (k:Nat) (q:Int) (acc:List (List ByteArray)),k≤N∧i=.int .i64 k∧acc.length=k∧0≤q∧q≤bs.length∧Rd w wr R A c bs q∧(Kd.slice 9 Kd.string).R 22 wr w.heap.size (fun _=>True) out acc∧aZr [] one cmp (N - k) q acc=F) (fun _ i _=>N - (intOf i).toNat)
  case atStart=>exact ⟨0,q0,[],by omega,rfl,rfl,by omega,by omega,hr,Kd.R_nil _ _ _ _ _,HF.out⟩
  case round =>
   clear HC
   obtain ⟨k,q,acc,hk,rfl,hak,hq,hq2,hr2,hrow,he⟩:=hrel
   have HE:=hid_ he;clear he
   have HAK:=hid_ hak;clear hak
   obtain ⟨c0,c1,z1⟩:=hr2.cells
   by_cases hlt:k<N
   ·
    have HO:=hone wr q hr2 hq hq2
    have hstep:aZr [] one cmp (N - k) q acc=aZr [] one cmp ((N - k - 1)+1) q acc:=by congr 1;omega
    cases ho:one q with
    | error f =>
     rw [ho] at HO
     rw [hstep] at HE
     have he:=HE.out
     unfold aZr at he
     rw [ho] at he
     have HE2:=hid_ he.symm
     clear HE he hstep ho
     go_wp2_with ((with_reducible refine HO.mono ?_);intro e w' hf;obtain ⟨ps,rfl⟩:=hf.pan)
     exact ⟨rfl,Fin.trans hr2 (hf.err HE2.out)⟩
    | ok xq =>
     obtain ⟨x,q2⟩:=xq
     obtain ⟨hqq,hqq2⟩:=hah q x q2 hq ho
     rw [ho] at HO
     rw [hstep] at HE
     have he:=HE.out
     unfold aZr at he
     rw [ho] at he
     dsimp only at he
     have HE2:=hid_ he
     clear HE he hstep ho
     have hold:∀ g,u12.ownBlock=some g→g<wr.heap.size:=fun g hg=>((Kd.R_bound hrow).1 g hg).2.2.1
     by_cases hk0:k=0
     ·
      subst hk0
      have HE3:=HE2.out
      rw [if_neg (fun h=>by have:=h.1;rw [HAK.out] at this;omega)] at HE3
      have HE4:=hid_ HE3
      clear HE2 HE3
      go_wp2_with (first
       | ((with_reducible refine HO.mono ?_);rintro e w1 ⟨v,rfl,hx,hr3⟩;obtain ⟨Ax,cx,rfl,hxc,hxr⟩:=Kd.R_reads hx;have hrow3:=bZu hrow hRlt hr3)
       | ((with_reducible refine aZh (b:=.append) (xs:=#[.tmp 48,.tmp 50]) rfl ?_);at_builtin;refine Kd.R_append (Kd.slice 9 Kd.string) (w0:=w1) w.heap.size rfl (.tmp 48) (.tmp 50) 24 22 (.slice none 0 0) 24 rfl Try.underlying24 info22 rfl (by decide) (by omega) _ acc x [.slice Ax x.length cx] (fun _=>True) (fun k=>wr.heap.size≤k) rfl rfl (Kd.M_row (Kd.R_mono (Kd.R_lower (Kd.R_bound hx) hr2.kept.1) (fun _ hk=>hk.2.1))) (fun g hg=>⟨trivial,fun e=>by have:=hold g e.symm;omega⟩) (fun _ _=>trivial) hrow3 (Below.refl _ _) (Nat.le_trans hr2.kept.1 hr3.kept.1) (by rw [HAK.out];omega) ?_;intro out2 w3 hrow4 hb4 hg4 _))
      have hr4:=(hr2.trans hr3).grown hg4 (Kd.R_base hrow3) hRlt
      go_roundw
      case rel=>exact ⟨1,q2,acc++[x],by omega,rfl,by simp [HAK.out],by omega,hqq2,hr4,hrow4,HE4.out⟩
      case measure=>simp [intOf];omega
     ·
      obtain ⟨Ao,co,rfl,hco,hread⟩:=Kd.R_reads hrow
      have hk1:((k:Int) - 1).toNat=k - 1:=by omega
      have HE3:=HE2.out
      rw [HAK.out] at HE3
      have HE4:=hid_ HE3
      clear HE2 HE3 hread
      generalize hy:acc.getD (k - 1) []=y at HE4
      have HY:=hid_ hy;clear hy
      have hcells:∀ w1,(Kd.slice 9 Kd.string).R 22 w1 w.heap.size (fun _=>True) (.slice Ao acc.length co) acc→∃ ad A2 c2,Ao=some ad∧w1.cell? (ad.add (k - 1))=some (.slice A2 y.length c2)∧y.length≤c2∧Kd.string.C w1 A2 y.length y:=by
       intro w1 hrow3
       obtain ⟨ad,cs,e,hcl,hck,hcc⟩:=Kd.C_get (Kd.R_reads' hrow3).2.2 [] ((k:Int) - 1) (by omega) (by rw [HAK.out];omega)
       rw [hk1,HY.out] at hck
       have hs:(Kd.slice 9 Kd.string).sz=1:=rfl
       obtain ⟨A2,c2,rfl,hl2,hC2⟩:=hck
       have h2:=hcc 0 _ rfl
       rw [hs,Nat.mul_one,Nat.add_zero,hk1] at h2
       exact ⟨ad,A2,c2,e,h2,hl2,hC2⟩
      have hb1:(k:Int) - 1<acc.length:=by rw [HAK.out];omega
      have hb0:0≤(k:Int) - 1:=by omega
      clear hk1
      by_cases hge:0≤cmp y x
      ·
       have he:Except.error (204,q)=F:=by rw [←HE4.out,if_pos ⟨by omega,hge⟩]
       have HE5:=hid_ he.symm
       clear HE4 he
       go_wp2_with (first
        | ((with_reducible refine HO.mono ?_);rintro e w1 ⟨v,rfl,hx,hr3⟩;obtain ⟨Ax,cx,rfl,hxc,hxr⟩:=Kd.R_reads hx;have hrow3:=bZu hrow hRlt hr3;obtain ⟨ad,A2,c2,rfl,hcell,hc2,hyr⟩:=hcells w1 hrow3)
        | ((with_reducible refine (hcmp _ _ y _ _ x _ hyr hc2 hxr hxc).mono ?_);rintro e w2 ⟨rfl,⟨nd,rfl⟩⟩)
        | ((with_reducible refine (aZ3 _ _ _).mono ?_);rintro e w2 ⟨rfl,rfl⟩))
       exact ⟨rfl,Fin.fail ((hr2.trans hr3).drewN nd) rfl HE5.out⟩
      ·
       have he:=HE4.out
       rw [if_neg (fun h=>hge h.2)] at he
       have HE5:=hid_ he
       clear HE4 he
       go_wp2_with (first
        | ((with_reducible refine HO.mono ?_);rintro e w1 ⟨v,rfl,hx,hr3⟩;obtain ⟨Ax,cx,rfl,hxc,hxr⟩:=Kd.R_reads hx;have hrow3:=bZu hrow hRlt hr3;obtain ⟨ad,A2,c2,rfl,hcell,hc2,hyr⟩:=hcells w1 hrow3)
        | ((with_reducible refine (hcmp _ _ y _ _ x _ hyr hc2 hxr hxc).mono ?_);rintro e w2 ⟨rfl,⟨nd,rfl⟩⟩)
        | ((with_reducible refine aZh (b:=.append) (xs:=#[.tmp 48,.tmp 50]) rfl ?_);at_builtin;refine Kd.R_append (Kd.slice 9 Kd.string) (w0:=w1.drewN nd) w.heap.size rfl (.tmp 48) (.tmp 50) 24 22 (.slice none 0 0) 24 rfl Try.underlying24 info22 rfl (by decide) (by omega) _ acc x [.slice Ax x.length cx] (fun _=>True) (fun k=>wr.heap.size≤k) rfl rfl (Kd.M_drewN (Kd.M_row (Kd.R_mono (Kd.R_lower (Kd.R_bound hx) hr2.kept.1) (fun _ hk=>hk.2.1))) nd) (fun g hg=>⟨trivial,fun e=>by have:=hold g e.symm;omega⟩) (fun _ _=>trivial) (Kd.R_drewN hrow3 nd) (Below.refl _ _) (Nat.le_trans hr2.kept.1 hr3.kept.1) (by rw [HAK.out];omega) ?_;intro out2 w3 hrow4 hb4 hg4 _))
       have hr4:=((hr2.trans hr3).drewN nd).grown hg4 (Kd.R_base hrow3) hRlt
       go_roundw
       case rel=>exact ⟨k+1,q2,acc++[x],by omega,by go_num,by simp [HAK.out],by omega,hqq2,hr4,hrow4,by rw [show N - (k+1)=N - k - 1 from by omega];exact HE5.out⟩
       case measure=>simp [intOf];omega
   ·
    obtain rfl:k=N:=by omega
    have hd:k - k=0:=by omega
    rw [hd] at HE
    have he:Except.ok (acc,q)=F:=HE.out
    clear HE hd
    subst he
    go_wp2_with (fail)
    go_ret
    exact ⟨_,rfl,hrow,hr2⟩
theorem list79 (w:World) (R:Nat) (A:Option Addr) (c:Nat) (bs:List Int) (p lo hi:Int) (h:Rd w w R A c bs p) (hp:0≤p) (hp2:p≤bs.length) (G:Good bs) (hlo:0≤lo) (hlo2:lo≤1000) (hhi:hi≤32768) (hhi0:0≤hi) (one:Int→Except (Int × Int) (List Int × Int)) (cmp:List Int→List Int→Int) (hah:dZk bs one) (V:Addr)
 (hone:∀ (wr:World) (q:Int),Rd w wr R A c bs q→0≤q→q≤bs.length→Calls Try.prog 90 #[.pointer (some V)] wr (Fin wr R A c bs (one q) (fun x v w'=>(Kd.int .i64).R 3 w' wr.heap.size (fun _=>True) v x)))
 (hcmp:∀ (A0:Option Addr) (c0:Nat) (l0:List Int) (A1:Option Addr) (c1:Nat) (l1:List Int) (w:World),(Kd.int .i64).C w A0 l0.length l0→l0.length≤c0→(Kd.int .i64).C w A1 l1.length l1→l1.length≤c1→Calls Try.prog 80 #[.slice A0 l0.length c0,.slice A1 l1.length c1] w fun e w'=>e=.returned (.int .i64 (cmp l0 l1))∧Drawn0 w w') :
 Calls Try.prog 89 #[.pointer (some ⟨R,0,none⟩),.int .i64 lo,.int .i64 hi,.func (.func 90) #[] #[.pointer (some V)],.func (.func 80) #[] #[]] w (Fin w R A c bs (aZO [] one cmp bs p lo hi) (fun x v w'=>(Kd.slice 3 (Kd.int .i64)).R 23 w' w.heap.size (fun _=>True) v x)):=by
 have hlen:=G.len
 have HC:=bZs w R A c bs p lo hi h hp hp2 G.byte G.len (by omega) (by omega)
 unfold aZO
 cases hc:aZm bs p lo hi with
 | error f =>
  rw [hc] at HC
  clear hc
  go_enter Try.func89,Try.ntmps89
  go_wp2_with ((with_reducible refine HC.mono ?_);intro e w' hf;obtain ⟨ps,rfl⟩:=hf.pan)
  exact ⟨rfl,hf.err rfl⟩
 | ok xq =>
  obtain ⟨n,q0⟩:=xq
  obtain ⟨x1,x2,x3,x4⟩:=aZt hc
  rw [hc] at HC
  clear hc
  dsimp only
  obtain ⟨N,rfl⟩:=Int.eq_ofNat_of_zero_le (show 0≤n by omega)
  rw [Int.toNat_natCast]
  generalize hF:aZr [] one cmp N q0 []=F
  have HF:=hid_ hF;clear hF
  go_enter Try.func89,Try.ntmps89
  go_wp2_with ((with_reducible refine HC.mono ?_);rintro e w' ⟨v,rfl,rfl,hr⟩)
  have hRlt:=h.lt
  go_loopw [12,24] (fun out i wr=>∃ (k:Nat) (q:Int) (acc:List (List Int)),k≤N∧i=.int .i64 k∧acc.length=k∧0≤q∧q≤bs.length∧Rd w wr R A c bs q∧(Kd.slice 3 (Kd.int .i64)).R 23 wr w.heap.size (fun _=>True) out acc∧aZr [] one cmp (N - k) q acc=F) (fun _ i _=>N - (intOf i).toNat)
  case atStart=>exact ⟨0,q0,[],by omega,rfl,rfl,by omega,by omega,hr,Kd.R_nil _ _ _ _ _,HF.out⟩
  case round =>
   clear HC
   obtain ⟨k,q,acc,hk,rfl,hak,hq,hq2,hr2,hrow,he⟩:=hrel
   have HE:=hid_ he;clear he
   have HAK:=hid_ hak;clear hak
   obtain ⟨c0,c1,z1⟩:=hr2.cells
   by_cases hlt:k<N
   ·
    have HO:=hone wr q hr2 hq hq2
    have hstep:aZr [] one cmp (N - k) q acc=aZr [] one cmp ((N - k - 1)+1) q acc:=by congr 1;omega
    cases ho:one q with
    | error f =>
     rw [ho] at HO
     rw [hstep] at HE
     have he:=HE.out
     unfold aZr at he
     rw [ho] at he
     have HE2:=hid_ he.symm
     clear HE he hstep ho
     go_wp2_with ((with_reducible refine HO.mono ?_);intro e w' hf;obtain ⟨ps,rfl⟩:=hf.pan)
     exact ⟨rfl,Fin.trans hr2 (hf.err HE2.out)⟩
    | ok xq =>
     obtain ⟨x,q2⟩:=xq
     obtain ⟨hqq,hqq2⟩:=hah q x q2 hq ho
     rw [ho] at HO
     rw [hstep] at HE
     have he:=HE.out
     unfold aZr at he
     rw [ho] at he
     dsimp only at he
     have HE2:=hid_ he
     clear HE he hstep ho
     have hold:∀ g,u12.ownBlock=some g→g<wr.heap.size:=fun g hg=>((Kd.R_bound hrow).1 g hg).2.2.1
     by_cases hk0:k=0
     ·
      subst hk0
      have HE3:=HE2.out
      rw [if_neg (fun h=>by have:=h.1;rw [HAK.out] at this;omega)] at HE3
      have HE4:=hid_ HE3
      clear HE2 HE3
      go_wp2_with (first
       | ((with_reducible refine HO.mono ?_);rintro e w1 ⟨v,rfl,hx,hr3⟩;obtain ⟨Ax,cx,rfl,hxc,hxr⟩:=Kd.R_reads hx;have hrow3:=bZu hrow hRlt hr3)
       | ((with_reducible refine aZh (b:=.append) (xs:=#[.tmp 48,.tmp 50]) rfl ?_);at_builtin;refine Kd.R_append (Kd.slice 3 (Kd.int .i64)) (w0:=w1) w.heap.size rfl (.tmp 48) (.tmp 50) 25 23 (.slice none 0 0) 24 rfl Try.underlying25 info23 rfl (by decide) (by omega) _ acc x [.slice Ax x.length cx] (fun _=>True) (fun k=>wr.heap.size≤k) rfl rfl (Kd.M_row (Kd.R_mono (Kd.R_lower (Kd.R_bound hx) hr2.kept.1) (fun _ hk=>hk.2.1))) (fun g hg=>⟨trivial,fun e=>by have:=hold g e.symm;omega⟩) (fun _ _=>trivial) hrow3 (Below.refl _ _) (Nat.le_trans hr2.kept.1 hr3.kept.1) (by rw [HAK.out];omega) ?_;intro out2 w3 hrow4 hb4 hg4 _))
      have hr4:=(hr2.trans hr3).grown hg4 (Kd.R_base hrow3) hRlt
      go_roundw
      case rel=>exact ⟨1,q2,acc++[x],by omega,rfl,by simp [HAK.out],by omega,hqq2,hr4,hrow4,HE4.out⟩
      case measure=>simp [intOf];omega
     ·
      obtain ⟨Ao,co,rfl,hco,hread⟩:=Kd.R_reads hrow
      have hk1:((k:Int) - 1).toNat=k - 1:=by omega
      have HE3:=HE2.out
      rw [HAK.out] at HE3
      have HE4:=hid_ HE3
      clear HE2 HE3 hread
      generalize hy:acc.getD (k - 1) []=y at HE4
      have HY:=hid_ hy;clear hy
      have hcells:∀ w1,(Kd.slice 3 (Kd.int .i64)).R 23 w1 w.heap.size (fun _=>True) (.slice Ao acc.length co) acc→∃ ad A2 c2,Ao=some ad∧w1.cell? (ad.add (k - 1))=some (.slice A2 y.length c2)∧y.length≤c2∧(Kd.int .i64).C w1 A2 y.length y:=by
       intro w1 hrow3
       obtain ⟨ad,cs,e,hcl,hck,hcc⟩:=Kd.C_get (Kd.R_reads' hrow3).2.2 [] ((k:Int) - 1) (by omega) (by rw [HAK.out];omega)
       rw [hk1,HY.out] at hck
       have hs:(Kd.slice 3 (Kd.int .i64)).sz=1:=rfl
       obtain ⟨A2,c2,rfl,hl2,hC2⟩:=hck
       have h2:=hcc 0 _ rfl
       rw [hs,Nat.mul_one,Nat.add_zero,hk1] at h2
       exact ⟨ad,A2,c2,e,h2,hl2,hC2⟩
      have hb1:(k:Int) - 1<acc.length:=by rw [HAK.out];omega
      have hb0:0≤(k:Int) - 1:=by omega
      clear hk1
      by_cases hge:0≤cmp y x
      ·
       have he:Except.error (204,q)=F:=by rw [←HE4.out,if_pos ⟨by omega,hge⟩]
       have HE5:=hid_ he.symm
       clear HE4 he
       go_wp2_with (first
        | ((with_reducible refine HO.mono ?_);rintro e w1 ⟨v,rfl,hx,hr3⟩;obtain ⟨Ax,cx,rfl,hxc,hxr⟩:=Kd.R_reads hx;have hrow3:=bZu hrow hRlt hr3;obtain ⟨ad,A2,c2,rfl,hcell,hc2,hyr⟩:=hcells w1 hrow3)
        | ((with_reducible refine (hcmp _ _ y _ _ x _ hyr hc2 hxr hxc).mono ?_);rintro e w2 ⟨rfl,⟨nd,rfl⟩⟩)
        | ((with_reducible refine (aZ3 _ _ _).mono ?_);rintro e w2 ⟨rfl,rfl⟩))
       exact ⟨rfl,Fin.fail ((hr2.trans hr3).drewN nd) rfl HE5.out⟩
      ·
       have he:=HE4.out
       rw [if_neg (fun h=>hge h.2)] at he
       have HE5:=hid_ he
       clear HE4 he
       go_wp2_with (first
        | ((with_reducible refine HO.mono ?_);rintro e w1 ⟨v,rfl,hx,hr3⟩;obtain ⟨Ax,cx,rfl,hxc,hxr⟩:=Kd.R_reads hx;have hrow3:=bZu hrow hRlt hr3;obtain ⟨ad,A2,c2,rfl,hcell,hc2,hyr⟩:=hcells w1 hrow3)
        | ((with_reducible refine (hcmp _ _ y _ _ x _ hyr hc2 hxr hxc).mono ?_);rintro e w2 ⟨rfl,⟨nd,rfl⟩⟩)
        | ((with_reducible refine aZh (b:=.append) (xs:=#[.tmp 48,.tmp 50]) rfl ?_);at_builtin;refine Kd.R_append (Kd.slice 3 (Kd.int .i64)) (w0:=w1.drewN nd) w.heap.size rfl (.tmp 48) (.tmp 50) 25 23 (.slice none 0 0) 24 rfl Try.underlying25 info23 rfl (by decide) (by omega) _ acc x [.slice Ax x.length cx] (fun _=>True) (fun k=>wr.heap.size≤k) rfl rfl (Kd.M_drewN (Kd.M_row (Kd.R_mono (Kd.R_lower (Kd.R_bound hx) hr2.kept.1) (fun _ hk=>hk.2.1))) nd) (fun g hg=>⟨trivial,fun e=>by have:=hold g e.symm;omega⟩) (fun _ _=>trivial) (Kd.R_drewN hrow3 nd) (Below.refl _ _) (Nat.le_trans hr2.kept.1 hr3.kept.1) (by rw [HAK.out];omega) ?_;intro out2 w3 hrow4 hb4 hg4 _))
       have hr4:=((hr2.trans hr3).drewN nd).grown hg4 (Kd.R_base hrow3) hRlt
       go_roundw
       case rel=>exact ⟨k+1,q2,acc++[x],by omega,by go_num,by simp [HAK.out],by omega,hqq2,hr4,hrow4,by rw [show N - (k+1)=N - k - 1 from by omega];exact HE5.out⟩
       case measure=>simp [intOf];omega
   ·
    obtain rfl:k=N:=by omega
    have hd:k - k=0:=by omega
    rw [hd] at HE
    have he:Except.ok (acc,q)=F:=HE.out
    clear HE hd
    subst he
    go_wp2_with (fail)
    go_ret
    exact ⟨_,rfl,hrow,hr2⟩
def cmpS (a b:ByteArray):Int:=if Op.bytesLess a.toList b.toList=true then -1 else if Op.bytesLess b.toList a.toList=true then 1 else 0
def cmpI (a b:Int):Int:=if a<b then -1 else if a > b then 1 else 0
def cmpL {α:Type} (cmp:α→α→Int):List α→List α→Int
  | [],[]=>0
  | [],_ :: _=>-1
  | _ :: _,[]=>1
  | a :: xs,b :: ys=>if cmp a b=0 then cmpL cmp xs ys else cmp a b
theorem cmpS_f (a b:ByteArray):cmp_Compare_string.f a b=some (cmpS a b):=by
 unfold cmp_Compare_string.f cmp_isNaN_string.f cmpS
 simp only [Option.bind_some,bne_self_eq_false,Bool.false_eq_true,if_false]
 split
 · rfl
 · split <;> rfl
theorem cmpI_f (a b:Int):cmp_Compare_int.f a b=some (cmpI a b):=by
 unfold cmp_Compare_int.f cmp_isNaN_int.f cmpI
 simp only [Option.bind_some,bne_self_eq_false,Bool.false_eq_true,if_false]
 split
 · rfl
 · split <;> rfl
theorem cmpS_any (a b:ByteArray) (w:World):Calls Try.prog 71 #[.string a,.string b] w fun e w'=>e=.returned (.int .i64 (cmpS a b))∧Drawn0 w w':=cmp_Compare_string.calls a b _ w (cmpS_f a b)
theorem cmpI_any (a b:Int) (w:World):Calls Try.prog 75 #[.int .i64 a,.int .i64 b] w fun e w'=>e=.returned (.int .i64 (cmpI a b))∧Drawn0 w w':=cmp_Compare_int.calls a b _ w (cmpI_f a b)
theorem cmpLS_l (x0 x1:List ByteArray) (h:x0.length≤9223372036854775807):∀ (k i:Nat),x0.length - i<k→i≤x0.length→i≤x1.length→slices_Compare_string_string.l0 k x0 x1 x0 (x0.length:Int) i=some (cmpL cmpS (x0.drop i) (x1.drop i))
 | 0,i,hk,_,_=>by omega
 | k+1,i,hk,h0,h1=>by
  unfold slices_Compare_string_string.l0
  by_cases hlt:i<x0.length
  ·
   rw [if_pos (by omega),if_pos (by omega),if_pos (by omega),List.drop_eq_getElem_cons hlt]
   by_cases hlt1:i<x1.length
   ·
    rw [if_neg (by omega),if_pos (by omega),List.drop_eq_getElem_cons hlt1,cmpS_f,Option.bind_some]
    have e0:rdOf ByteArray.empty x0 (i:Int)=x0[i]:=by simp [rdOf,hlt]
    have e1:rdOf ByteArray.empty x1 (i:Int)=x1[i]:=by simp [rdOf,hlt1]
    have ew:wrap64 ((i:Int)+1)=((i+1:Nat):Int):=by rw [IntWalk.wrap64_in _ ⟨by omega,by omega⟩];omega
    rw [e0,e1,ew]
    unfold cmpL
    by_cases hc:cmpS x0[i] x1[i]=0
    ·
     rw [if_pos hc,if_pos hc]
     exact cmpLS_l x0 x1 h k (i+1) (by omega) (by omega) (by omega)
    · rw [if_neg hc,if_neg hc]
   ·
    rw [if_pos (by omega),List.drop_eq_nil_of_le (by omega:x1.length≤i)]
    rfl
  ·
   rw [if_neg (by omega),List.drop_eq_nil_of_le (by omega:x0.length≤i)]
   by_cases hlt1:i<x1.length
   ·
    rw [if_pos (by omega),List.drop_eq_getElem_cons hlt1]
    rfl
   ·
    rw [if_neg (by omega),List.drop_eq_nil_of_le (by omega:x1.length≤i)]
    rfl
theorem cmpLI_l (x0 x1:List Int) (h:x0.length≤9223372036854775807):∀ (k i:Nat),x0.length - i<k→i≤x0.length→i≤x1.length→slices_Compare_int_int.l0 k x0 x1 x0 (x0.length:Int) i=some (cmpL cmpI (x0.drop i) (x1.drop i))
 | 0,i,hk,_,_=>by omega
 | k+1,i,hk,h0,h1=>by
  unfold slices_Compare_int_int.l0
  by_cases hlt:i<x0.length
  ·
   rw [if_pos (by omega),if_pos (by omega),if_pos (by omega),List.drop_eq_getElem_cons hlt]
   by_cases hlt1:i<x1.length
   ·
    rw [if_neg (by omega),if_pos (by omega),List.drop_eq_getElem_cons hlt1,cmpI_f,Option.bind_some]
    have e0:rd x0 (i:Int)=x0[i]:=by simp [rd,hlt]
    have e1:rd x1 (i:Int)=x1[i]:=by simp [rd,hlt1]
    have ew:wrap64 ((i:Int)+1)=((i+1:Nat):Int):=by rw [IntWalk.wrap64_in _ ⟨by omega,by omega⟩];omega
    rw [e0,e1,ew]
    unfold cmpL
    by_cases hc:cmpI x0[i] x1[i]=0
    ·
     rw [if_pos hc,if_pos hc]
     exact cmpLI_l x0 x1 h k (i+1) (by omega) (by omega) (by omega)
    · rw [if_neg hc,if_neg hc]
   ·
    rw [if_pos (by omega),List.drop_eq_nil_of_le (by omega:x1.length≤i)]
    rfl
  ·
   rw [if_neg (by omega),List.drop_eq_nil_of_le (by omega:x0.length≤i)]
   by_cases hlt1:i<x1.length
   ·
    rw [if_pos (by omega),List.drop_eq_getElem_cons hlt1]
    rfl
   ·
    rw [if_neg (by omega),List.drop_eq_nil_of_le (by omega:x1.length≤i)]
    rfl
theorem cmpLS_any (A0:Option Addr) (c0:Nat) (l0:List ByteArray) (A1:Option Addr) (c1:Nat) (l1:List ByteArray) (w:World) (h0:Kd.string.C w A0 l0.length l0) (hc0:l0.length≤c0) (h1:Kd.string.C w A1 l1.length l1) (hc1:l1.length≤c1) :
    Calls Try.prog 78 #[.slice A0 l0.length c0,.slice A1 l1.length c1] w fun e w'=>e=.returned (.int .i64 (cmpL cmpS l0 l1))∧Drawn0 w w' :=
  slices_Compare_string_string.calls (l0.length+1) A0 c0 l0 A1 c1 l1 _ w h0 hc0 h1 hc1 (cmpLS_l l0 l1 h0.2.1 (l0.length+1) 0 (by omega) (by omega) (by omega))
theorem cmpLI_any (A0:Option Addr) (c0:Nat) (l0:List Int) (A1:Option Addr) (c1:Nat) (l1:List Int) (w:World) (h0:(Kd.int .i64).C w A0 l0.length l0) (hc0:l0.length≤c0) (h1:(Kd.int .i64).C w A1 l1.length l1) (hc1:l1.length≤c1) :
    Calls Try.prog 80 #[.slice A0 l0.length c0,.slice A1 l1.length c1] w fun e w'=>e=.returned (.int .i64 (cmpL cmpI l0 l1))∧Drawn0 w w' :=
  slices_Compare_int_int.calls (l0.length+1) A0 c0 l0 A1 c1 l1 _ w h0 hc0 h1 hc1 (cmpLI_l l0 l1 h0.2.1 (l0.length+1) 0 (by omega) (by omega) (by omega))
theorem bZj (bs:List Int):dZk bs (numF bs):=by
 intro p x q hp h
 unfold numF at h
 split at h
 · simp at h
 ·
  rename_i n q' hc
  have:=aZt hc
  simp only [Except.ok.injEq,Prod.mk.injEq] at h
  omega
theorem bZb (bs:List Int):dZk bs (bZi bs):=by
 intro p x q hp h
 unfold bZi at h
 split at h
 · simp at h
 ·
  rename_i n q' hc
  have:=aZt hc
  split at h
  · simp at h
  ·
   simp only [Except.ok.injEq,Prod.mk.injEq] at h
   omega
theorem eZv {α:Type} (z:α) (bs:List Int) (one:Int→Except (Int × Int) (α × Int)) (cmp:α→α→Int) (ho:dZk bs one):∀ (d:Nat) (q:Int) (acc x:List α) (q2:Int),0≤q→q≤bs.length→aZr z one cmp d q acc=.ok (x,q2)→q≤q2∧q2≤bs.length∧x.length=acc.length+d
  | 0,q,acc,x,q2,h0,hq,h=>by
    unfold aZr at h
    simp only [Except.ok.injEq,Prod.mk.injEq] at h
    obtain ⟨rfl,rfl⟩:=h
    exact ⟨by omega,hq,rfl⟩
  | d+1,q,acc,x,q2,h0,hq,h=>by
    unfold aZr at h
    split at h
    · simp at h
    · rename_i y q3 hc
      have h3:=ho q y q3 h0 hc
      split at h
      · simp at h
      · have:=eZv z bs one cmp ho d q3 _ x q2 (by omega) h3.2 h
        simp only [List.length_append,List.length_cons,List.length_nil] at this
        omega
theorem bZV {α:Type} {z:α} {bs:List Int} {one:Int→Except (Int × Int) (α × Int)} {cmp:α→α→Int} (ho:dZk bs one) {p lo hi:Int} (hp:0≤p) (hlo:0≤lo) {x:List α} {q:Int} (h:aZO z one cmp bs p lo hi=.ok (x,q)):p<q∧q≤bs.length∧lo≤x.length∧(x.length:Int)≤hi:=by
 unfold aZO at h
 split at h
 · simp at h
 ·
  rename_i n q' hc
  have hcc:=aZt hc
  have:=eZv z bs one cmp ho _ q' _ x q (by omega) hcc.2.2.2 h
  simp only [List.length_nil] at this
  omega
theorem bZS {α:Type} (z:α) (bs:List Int) (one:Int→Except (Int × Int) (α × Int)) (cmp:α→α→Int) (ho:dZk bs one) (lo hi:Int) (hlo:0≤lo):dZk bs (fun p=>aZO z one cmp bs p lo hi):=fun p x q hp h=>⟨(bZV ho hp hlo h).1,(bZV ho hp hlo h).2.1⟩
def bZf (bs:List Int) (p:Int):Except (Int × Int) (List ByteArray × Int):=aZO ByteArray.empty (bZi bs) cmpS bs p 1 1000
def bZr (bs:List Int) (p:Int):Except (Int × Int) (List Int × Int):=aZO 0 (numF bs) cmpI bs p 1 1000
theorem prog1_any (w:World) (R:Nat) (A:Option Addr) (c:Nat) (bs:List Int) (p:Int) (h:Rd w w R A c bs p) (hp:0≤p) (hp2:p≤bs.length) (G:Good bs) (hbc:bs.length≤c) (V:Addr) (hV:w.cell? V=some (.pointer (some ⟨R,0,none⟩))) :
 Calls Try.prog 88 #[.pointer (some V)] w (Fin w R A c bs (bZf bs p) (fun x v w'=>Kd.string.R 9 w' w.heap.size (fun _=>True) v x)):=by
 have hmf:∀ (fn:Fn) (first cap:Array Value) (w:World),(Instr.makeFunc fn first cap).run Try.prog w=.ok (.func fn first cap) w:=fun _ _ _ _=>rfl
 have HL:=list73 w R A c bs p 1 1000 h hp hp2 G (by omega) (by omega) (by omega) (by omega) (bZi bs) cmpS (bZb bs) (fun wr q hr h0 h1=>text_any wr R A c bs q hr.self h0 h1 G hbc) (fun a b w=>cmpS_any a b w)
 change Calls _ _ _ w (Fin w R A c bs (bZf bs p) _) at HL
 cases hc:bZf bs p with
 | error f =>
  rw [hc] at HL
  clear hc
  go_enter Try.func88,Try.ntmps88
  go_wp2_with ((with_reducible refine HL.mono ?_);intro e w' hf;obtain ⟨ps,rfl⟩:=hf.pan)
  exact ⟨rfl,hf.err rfl⟩
 | ok xq =>
  obtain ⟨x,q⟩:=xq
  rw [hc] at HL
  clear hc
  go_enter Try.func88,Try.ntmps88
  go_wp2_with ((with_reducible refine HL.mono ?_);rintro e w' ⟨v,rfl,hx,hr⟩)
  go_ret
  exact ⟨_,rfl,hx,hr⟩
theorem prog2_any (w:World) (R:Nat) (A:Option Addr) (c:Nat) (bs:List Int) (p:Int) (h:Rd w w R A c bs p) (hp:0≤p) (hp2:p≤bs.length) (G:Good bs) (hbc:bs.length≤c) (V:Addr) (hV:w.cell? V=some (.pointer (some ⟨R,0,none⟩))) :
 Calls Try.prog 90 #[.pointer (some V)] w (Fin w R A c bs (bZr bs p) (fun x v w'=>(Kd.int .i64).R 3 w' w.heap.size (fun _=>True) v x)):=by
 have hmf:∀ (fn:Fn) (first cap:Array Value) (w:World),(Instr.makeFunc fn first cap).run Try.prog w=.ok (.func fn first cap) w:=fun _ _ _ _=>rfl
 have HL:=list75 w R A c bs p 1 1000 h hp hp2 G (by omega) (by omega) (by omega) (by omega) (numF bs) cmpI (bZj bs) (fun wr q hr h0 h1=>num_any wr R A c bs q hr.self h0 h1 G) (fun a b w=>cmpI_any a b w)
 change Calls _ _ _ w (Fin w R A c bs (bZr bs p) _) at HL
 cases hc:bZr bs p with
 | error f =>
  rw [hc] at HL
  clear hc
  go_enter Try.func90,Try.ntmps90
  go_wp2_with ((with_reducible refine HL.mono ?_);intro e w' hf;obtain ⟨ps,rfl⟩:=hf.pan)
  exact ⟨rfl,hf.err rfl⟩
 | ok xq =>
  obtain ⟨x,q⟩:=xq
  rw [hc] at HL
  clear hc
  go_enter Try.func90,Try.ntmps90
  go_wp2_with ((with_reducible refine HL.mono ?_);rintro e w' ⟨v,rfl,hx,hr⟩)
  go_ret
  exact ⟨_,rfl,hx,hr⟩
def aZU {α:Type} (cmp:α→α→Int) (ok:α→Bool):Option α→List α→Bool
  | _,[]=>true
  | none,x :: l=>ok x && aZU cmp ok (some x) l
  | some y,x :: l=>ok x && !decide (0≤cmp y x) && aZU cmp ok (some x) l
def okS (s:ByteArray):Bool:=decide (s.size≤127)
def okI (n:Int):Bool:=decide (-1000000000000000000≤n∧n≤1000000000000000000)
def okSS (l:List ByteArray):Bool:=decide (1≤l.length∧l.length≤1000) && aZU cmpS okS none l
def okII (l:List Int):Bool:=decide (1≤l.length∧l.length≤1000) && aZU cmpI okI none l
theorem bZ4 (n:Int) (h:-9223372036854775808≤n) (h2:n≤9223372036854775807):wrap64 n=n:=IntWalk.wrap64_in n ⟨h,h2⟩
end Go.Proofs.Ytbnplhmmbnmagaa.D
