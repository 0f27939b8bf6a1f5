/- The reader's walks: fail, count. -/
import Derived.Test.YtbnplhmmbnmagaaProg
import Derived.Test.YtbnplhmmbnmagaazAMw0
import Derived.WalkKit
import Derived.WalkLawsBesides
import Derived.WalkSmall
import Derived.LoopN
import Derived.Handy
import Derived.BigRegion
import Derived.Recover
import Derived.Defers
import Derived.IntWalk
import Derived.Laws.BitsAllLaws
set_option maxHeartbeats 4000000
set_option maxRecDepth 100000
set_option linter.all false
namespace Go.Proofs.Ytbnplhmmbnmagaa.D
open Go.RowKit Go.Proofs.YtbnplhmmbnmagaaW.PrintWords Go.Proofs.YtbnplhmmbnmagaaW.PrintLast Go.Proofs.YtbnplhmmbnmagaaW.PrintMore
theorem hid_ {p:Prop} (h:p):Hid p:=h
theorem dZJ (k:Nat):(2:Int) ^ (7*k)=128 ^ k:=by rw [Int.pow_mul];rfl
theorem pow_le (k:Nat) (hk:k≤8):(128:Int) ^ k≤72057594037927936∧(1:Int)≤128 ^ k:=by
  have:k=0∨k=1∨k=2∨k=3∨k=4∨k=5∨k=6∨k=7∨k=8:=by omega
  rcases this with h|h|h|h|h|h|h|h|h <;> subst h <;> decide
theorem gZl (m x:Int) (k:Nat) (hm:0≤m) (hm2:m<128 ^ k) (hx:0≤x) (hx2:x<128):0≤m+x*128 ^ k∧m+x*128 ^ k<128 ^ (k+1):=by
  rw [Int.pow_succ]
  generalize (128:Int) ^ k=P at hm2
  have h1:0≤x*P:=Int.mul_nonneg hx (by omega)
  have h2:x*P≤127*P:=Int.mul_le_mul_of_nonneg_right (by omega) (by omega)
  omega
theorem num_eq (m x:Int) (k:Nat) (hk:k≤8) (hm:0≤m) (hm2:m<128 ^ k) (hx:0≤x) (hx2:x≤255) :
    bits .or .u64 m (IntKind.u64.wrap (IntKind.u64.wrap (bits .and .u8 x 127)*2 ^ (7*k)))=m+x % 128*128 ^ k:=by
  have e1:bits .and .u8 x 127=x % 128:=by
    rw [u8_and x 127 hx (by omega) (by omega) (by omega)]
    have:x.toNat &&& (127:Int).toNat=x.toNat % 128:=Nat.and_two_pow_sub_one_eq_mod x.toNat 7
    rw [this]
    omega
  have hp:=pow_le k hk
  have hb:=gZl m (x % 128) k hm hm2 (by omega) (by omega)
  have e3:(0:Int)≤x % 128*128 ^ k:=Int.mul_nonneg (by omega) (by omega)
  have e4:x % 128*(128:Int) ^ k≤127*72057594037927936:=Int.mul_le_mul (by omega) hp.1 (by omega) (by omega)
  rw [e1,IntWalk.u64_in (x % 128) ⟨by omega,by omega⟩,dZJ,IntWalk.u64_in _ ⟨e3,by omega⟩,u64_or _ _ hm (by omega) e3 (by omega)]
  obtain ⟨M,rfl⟩:=Int.eq_ofNat_of_zero_le hm
  obtain ⟨y,hy⟩:=Int.eq_ofNat_of_zero_le (show 0≤x % 128 by omega)
  rw [hy]
  have e5:((y:Int)*128 ^ k).toNat=2 ^ (7*k)*y:=by
    have:((y:Int)*128 ^ k)=((2 ^ (7*k)*y:Nat):Int):=by rw [←dZJ];push_cast;rw [Int.mul_comm]
    rw [this,Int.toNat_natCast]
  have e6:M<2 ^ (7*k):=by
    have:=dZJ k
    have h3:((M:Nat):Int)<((2 ^ (7*k):Nat):Int):=by push_cast;rw [this];exact hm2
    omega
  rw [e5,Int.toNat_natCast,Nat.or_comm,←Nat.two_pow_add_eq_or_of_lt e6 y]
  push_cast
  rw [dZJ,Int.mul_comm y,Int.add_comm]
theorem aZ3 (c p:Int) (w:World):Calls Try.prog 81 #[.int .i64 c,.int .i64 p] w fun e w' =>
 e=.panicked [{ v:=.iface 95 (.pointer (some ⟨w.heap.size,0,none⟩)),recovered:=false }]∧w'=w.alloc (.cells #[.int .i64 c,.int .i64 p,.string ⟨#[]⟩,.nilIface] 98):=by
 go_enter Try.func81,Try.ntmps81
 go_wp2
 exact ⟨rfl,rfl,rfl⟩
structure Rd (w wr:World) (R:Nat) (A:Option Addr) (c:Nat) (bs:List Int) (p:Int):Prop where
  below:Below R w wr
  kept:Kept w wr (fun k=>k=R)
  blk:wr.heap[R]?=some (.cells #[.slice A bs.length c,.int .i64 p] 125 (0,0))
  row:∀ W,Kept w W (fun k=>k=R)→Kd.C (Kd.int .u8) W A bs.length bs
theorem Rd.cells {w wr:World} {R:Nat} {A:Option Addr} {c:Nat} {bs:List Int} {p:Int} (h:Rd w wr R A c bs p) :
    wr.cell? ⟨R,0,none⟩=some (.slice A bs.length c)∧wr.cell? ⟨R,1,none⟩=some (.int .i64 p)∧wr.frozen? ⟨R,1,none⟩=false:=by
  have:=h.blk
  simp [World.cell?,World.frozen?,this]
theorem Rd.byte {w wr:World} {R:Nat} {A:Option Addr} {c:Nat} {bs:List Int} {p:Int} (h:Rd w wr R A c bs p) (i:Int) (h0:0≤i) (h1:i<bs.length) :
    ∃ ad,A=some ad∧wr.cell? (ad.add i.toNat)=some (.int .u8 (bs.getD i.toNat 0)):=by
  have:=h.row wr h.kept
  obtain ⟨ad,c',e,hl,hk,hc⟩:=Kd.C_get this (0:Int) i h0 h1
  refine ⟨ad,e,?_⟩
  have h2:=hc 0 _ (by rw [hk];rfl)
  have hs:(Kd.int .u8).sz=1:=rfl
  rwa [hs,Nat.mul_one,Nat.add_zero] at h2
theorem Rd.set {w wr:World} {R:Nat} {A:Option Addr} {c:Nat} {bs:List Int} {p:Int} (h:Rd w wr R A c bs p) (q:Int):Rd w (wr.setCell ⟨R,1,none⟩ (.int .i64 q)) R A c bs q:=by
  refine ⟨h.below.setCell (by simp) _,h.kept.setCell (.inl rfl) _,?_,h.row⟩
  simp [World.setCell,h.blk,Array.getElem?_modify]
def bZQ (bs:List Int) (frm lo hi:Int):Nat→Nat→Int→Int→Except (Int × Int) (Int × Int)
  | 0,_,_,_=>.error (0,0)
  | f+1,i,p,n =>
    if (bs.length:Int)≤p then .error (201,bs.length)
    else if i=8∧128≤bs.getD p.toNat 0 then .error (202,frm)
    else if 128≤bs.getD p.toNat 0 then bZQ bs frm lo hi f (i+1) (p+1) (n+bs.getD p.toNat 0 % 128*128 ^ i)
    else if bs.getD p.toNat 0=0∧0<i then .error (202,frm)
    else if n+bs.getD p.toNat 0 % 128*128 ^ i<lo∨hi<n+bs.getD p.toNat 0 % 128*128 ^ i then .error (205,frm)
    else .ok (n+bs.getD p.toNat 0 % 128*128 ^ i,p+1)
def aZn (bs:List Int) (p lo hi:Int):Except (Int × Int) (Int × Int):=bZQ bs p lo hi 9 0 p 0
def Fin {α:Type} (w:World) (R:Nat) (A:Option Addr) (c:Nat) (bs:List Int) (r:Except (Int × Int) (α × Int)) (V:α→Value→World→Prop) (e:Ending) (w':World):Prop :=
  match r with
  | .ok (x,q)=>∃ v,e=.returned v∧V x v w'∧Rd w w' R A c bs q
  | .error (k,q)=>∃ F p,e=.panicked [{ v:=.iface 95 (.pointer (some ⟨F,0,none⟩)),recovered:=false }]∧R<F∧w'.heap[F]?=some (.cells #[.int .i64 k,.int .i64 q,.string ⟨#[]⟩,.nilIface] 98 (0,0))∧Rd w w' R A c bs p
theorem Rd.lt {w wr:World} {R:Nat} {A:Option Addr} {c:Nat} {bs:List Int} {p:Int} (h:Rd w wr R A c bs p):R<wr.heap.size:=aZd h.blk
theorem Rd.drew {w wr:World} {R:Nat} {A:Option Addr} {c:Nat} {bs:List Int} {p:Int} (h:Rd w wr R A c bs p):Rd w wr.drew R A c bs p:=⟨h.below.drew,h.kept.drew,h.blk,h.row⟩
theorem Rd.drewN {w wr:World} {R:Nat} {A:Option Addr} {c:Nat} {bs:List Int} {p:Int} (h:Rd w wr R A c bs p) (m:Nat):Rd w (wr.drewN m) R A c bs p:=⟨⟨h.below.os,h.below.tape,h.below.output,h.below.size,h.below.block⟩,h.kept.drewN m,h.blk,h.row⟩
theorem Rd.alloc {w wr:World} {R:Nat} {A:Option Addr} {c:Nat} {bs:List Int} {p:Int} (h:Rd w wr R A c bs p) (o:Obj):Rd w (wr.alloc o) R A c bs p :=
  ⟨h.below.alloc (Nat.le_of_lt h.lt) _,h.kept.alloc _,(Below.heap_alloc _ _ _ h.lt).trans h.blk,h.row⟩
theorem Fin.fail {α:Type} {w w1:World} {R F:Nat} {A:Option Addr} {c:Nat} {bs:List Int} {q k pl:Int} {r:Except (Int × Int) (α × Int)} {V:α→Value→World→Prop} (h:Rd w w1 R A c bs q) (hF:F=w1.heap.size) (hr:r=.error (k,pl)) :
    Fin w R A c bs r V (.panicked [{ v:=.iface 95 (.pointer (some ⟨F,0,none⟩)),recovered:=false }]) (w1.alloc (.cells #[.int .i64 k,.int .i64 pl,.string ⟨#[]⟩,.nilIface] 98)):=by
  subst hr hF
  exact ⟨_,q,rfl,h.lt,heap_alloc_new _ _,h.alloc _⟩
theorem Fin.pdrew {α:Type} {w w1:World} {R:Nat} {A:Option Addr} {c:Nat} {bs:List Int} {r:Except (Int × Int) (α × Int)} {V:α→Value→World→Prop} {ps:List PanicEntry} (h:Fin w R A c bs r V (.panicked ps) w1):Fin w R A c bs r V (.panicked ps) w1.drew:=by
 unfold Fin at h ⊢
 split at h
 ·
  obtain ⟨v,h,_⟩:=h
  simp at h
 ·
  obtain ⟨F,p,h1,h2,h3,h4⟩:=h
  exact ⟨F,p,h1,h2,h3,h4.drew⟩
theorem aZP (bs:List Int) (frm lo hi:Int) (f k:Nat) (q m x y:Int) (hx:bs.getD q.toNat 0=x) (hy:m+x % 128*128 ^ k=y) :
    bZQ bs frm lo hi (f+1) k q m=if (bs.length:Int)≤q then .error (201,bs.length) else if k=8∧128≤x then .error (202,frm) else if 128≤x then bZQ bs frm lo hi f (k+1) (q+1) y
      else if x=0∧0<k then .error (202,frm) else if y<lo∨hi<y then .error (205,frm) else .ok (y,q+1):=by
  subst hx hy
  rfl
theorem bZu (w:World) (R:Nat) (A:Option Addr) (c:Nat) (bs:List Int) (p lo hi:Int) (h:Rd w w R A c bs p) (hp:0≤p) (hp2:p≤bs.length) (hb:∀ x∈bs,0≤x∧x≤255) (hl:bs.length≤200000000000000) (hlo:0≤lo) (hhi:hi≤2000000000000000000) :
 Calls Try.prog 82 #[.pointer (some ⟨R,0,none⟩),.int .u64 lo,.int .u64 hi] w (Fin w R A c bs (aZn bs p lo hi) (fun x v _=>v=.int .u64 x)):=by
 obtain ⟨c0,c1,z1⟩:=h.cells
 go_enter Try.func82,Try.ntmps82
 go_wp2
 go_loopw [8,9] (fun n i wr=>∃ (k:Nat) (q m:Int),k≤8∧i=.int .i64 k∧n=.int .u64 m∧0≤m∧m<128 ^ k∧0≤q∧q≤bs.length∧Rd w wr R A c bs q∧aZn bs p lo hi=bZQ bs p lo hi (9 - k) k q m) (fun _ i _=>9 - (intOf i).toNat)
 case atStart=>exact ⟨0,p,0,by omega,rfl,rfl,by omega,by omega,hp,hp2,h,rfl⟩
 case round =>
  clear c0 c1 z1
  obtain ⟨k,q,m,hk,rfl,rfl,hm,hm2,hq,hq2,hr,he⟩:=hrel
  have HE:=hid_ he;clear he
  obtain ⟨c0,c1,z1⟩:=hr.cells
  by_cases hend:(bs.length:Int)≤q
  ·
   go_wp2_with (fail)
   go_region
   go_wp2_with (with_reducible refine (aZ3 _ _ _).mono ?_;rintro e w' ⟨rfl,rfl⟩)
   exact ⟨rfl,(Fin.fail hr rfl (by rw [HE.out,show 9 - k=(8 - k)+1 from by omega];unfold bZQ;rw [if_pos hend])).pdrew⟩
  ·
   obtain ⟨ad,rfl,hcell⟩:=hr.byte q hq (by omega)
   have hx:=hb (bs.getD q.toNat 0) (by rw [List.getD_eq_getElem?_getD,List.getElem?_eq_getElem (by omega)];simp)
   generalize hxe:bs.getD q.toNat 0=x at hcell hx
   have HX:=hid_ hxe;clear hxe
   have hn:=num_eq m x k hk hm hm2 hx.1 hx.2
   have hnb:=gZl m (x % 128) k hm hm2 (by omega) (by omega)
   generalize hy:m+x % 128*128 ^ k=y at hn hnb
   have HY:=hid_ hy;clear hy
   have HM:=hid_ hm2;clear hm2
   have HB:=hid_ hnb.2
   replace hnb:=hnb.1
   have hr2:=hr.set (q+1)
   have h9:¬k=8→9 - k=(8 - k)+1:=by omega
   have H9:=hid_ h9;clear h9
   by_cases h8:k=8
   ·
    subst h8
    have hn2:bits .or .u64 m (IntKind.u64.wrap (IntKind.u64.wrap (bits .and .u8 x 127)*72057594037927936))=y:=hn
    go_wp2_with (fail)
    go_region
    go_wp2_with (fail)
    go_region
    go_wp2_with (with_reducible refine (aZ3 _ _ _).mono ?_;rintro e w' ⟨rfl,rfl⟩)
    all_goals first
     | (go_ret;unfold Fin;rw [HE.out,show (9 - 8:Nat)=0+1 from rfl,aZP _ _ _ _ _ _ _ _ _ _ HX.out HY.out];(repeat first|rw [if_pos (by omega)]|rw [if_neg (by omega)]);exact ⟨_,rfl,rfl,hr2.drew.drew⟩)
     | exact ⟨rfl,(Fin.fail hr2 (by simp [World.setCell]) (by rw [HE.out,show (9 - 8:Nat)=0+1 from rfl,aZP _ _ _ _ _ _ _ _ _ _ HX.out HY.out];(repeat first|rw [if_pos (by omega)]|rw [if_neg (by omega)]))).pdrew.pdrew⟩
   ·
    go_wp2_with (fail)
    go_region
    go_wp2_with (fail)
    go_region
    go_wp2_with (with_reducible refine (aZ3 _ _ _).mono ?_;rintro e w' ⟨rfl,rfl⟩)
    case roundEnd =>
     go_roundw
     case rel=>exact ⟨k+1,q+1,y,by omega,by go_num,rfl,hnb,HB.out,by omega,by omega,hr2.drew.drew,by rw [HE.out,H9.out h8,aZP _ _ _ _ _ _ _ _ _ _ HX.out HY.out,show 9 - (k+1)=8 - k by omega];(repeat first|rw [if_pos (by omega)]|rw [if_neg (by omega)])⟩
     case measure=>simp [intOf];omega
    all_goals first
     | (go_ret;unfold Fin;rw [HE.out,H9.out h8,aZP _ _ _ _ _ _ _ _ _ _ HX.out HY.out];(repeat first|rw [if_pos (by omega)]|rw [if_neg (by omega)]);exact ⟨_,rfl,rfl,hr2.drew.drew⟩)
     | exact ⟨rfl,(Fin.fail hr2 (by simp [World.setCell]) (by rw [HE.out,H9.out h8,aZP _ _ _ _ _ _ _ _ _ _ HX.out HY.out];(repeat first|rw [if_pos (by omega)]|rw [if_neg (by omega)]))).pdrew.pdrew⟩
     | go_ways
end Go.Proofs.Ytbnplhmmbnmagaa.D
