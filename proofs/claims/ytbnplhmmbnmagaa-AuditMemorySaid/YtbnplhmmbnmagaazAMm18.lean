/- The statements' Read, of the audit's own faults. -/
import Derived.Test.YtbnplhmmbnmagaazAMm17
import Derived.Laws.CopyOwn
set_option maxHeartbeats 4000000
set_option maxRecDepth 100000
set_option linter.all false
namespace Go.Proofs.Ytbnplhmmbnmagaa.D
open Go.RowKit Go.Proofs.YtbnplhmmbnmagaaW.PrintWords Go.Proofs.YtbnplhmmbnmagaaW.PrintLast Go.Proofs.YtbnplhmmbnmagaaW.PrintMore Go.Proofs.Ytbnplhmmbnmagaa.All
abbrev rdV (n i:Int):Value:=.agg #[.int .i64 n,.int .i64 i,.string ⟨#[]⟩,.int .i64 0,.int .i64 0,.int .i64 0,.string ⟨#[]⟩,.int .i64 0,.int .i64 0,.int .i64 0,.string ⟨#[]⟩,.int .i64 0,.int .i64 0,.int .i64 0,.string ⟨#[]⟩,.int .i64 0,.int .i64 0,.int .i64 0,.string ⟨#[]⟩]
abbrev rdO (n i:Int):Obj:=.cells #[.int .i64 n,.int .i64 i,.string ⟨#[]⟩,.int .i64 0,.int .i64 0,.int .i64 0,.string ⟨#[]⟩,.int .i64 0,.int .i64 0,.int .i64 0,.string ⟨#[]⟩,.int .i64 0,.int .i64 0,.int .i64 0,.string ⟨#[]⟩,.int .i64 0,.int .i64 0,.int .i64 0,.string ⟨#[]⟩] 41
theorem results16 (tmps:Array Value) (w:World) (P:Nat) (n i:Int) (h2:tmps.getD 2 undef=.pointer (some ⟨P,0,none⟩)) (hP:w.heap[P]?=some (rdO n i)) :
    (results Try.f16 tmps).run Try.prog w=.ok (rdV n i) w:=by
  have hl:=run_loadVar_row (P:=Try.prog) w P 41 41 _ (0,0) _ hP Try.underlying41 rfl (by kernel_rfl)
  have h2':tmps[2]?.getD undef=.pointer (some ⟨P,0,none⟩):=by simpa using h2
  simp [results,Try.results16,h2',asAddr,hl]
abbrev rdC (n i:Int):Array Value:=#[.int .i64 n,.int .i64 i,.string ⟨#[]⟩,.int .i64 0,.int .i64 0,.int .i64 0,.string ⟨#[]⟩,.int .i64 0,.int .i64 0,.int .i64 0,.string ⟨#[]⟩,.int .i64 0,.int .i64 0,.int .i64 0,.string ⟨#[]⟩,.int .i64 0,.int .i64 0,.int .i64 0,.string ⟨#[]⟩]
theorem bZe (n i:Int):(Try.prog.info? 41).map (·.size)=some (rdC n i).size:=by kernel_rfl
theorem bZ5 (n i:Int):(rdC n i).all (·.oneCell')=true:=by simp [Array.all,Value.oneCell']
theorem bZg (n i m j:Int):(rdC n i).size=(rdC m j).size:=rfl
theorem read_nil (w:World):Calls Try.prog 16 #[.nilIface] w fun e w'=>e=.returned (rdV 0 0)∧Below w.heap.size w w':=by
 go_enter Try.func16,Try.ntmps16
 go_upto_region 1 with (fail)
 have hx0:=heap_alloc_new w (rdO 0 0)
 have hB:Below w.heap.size w (w.alloc (rdO 0 0)):=aZa (Below.refl _ _) _
 generalize w.alloc (rdO 0 0)=W at hx0 hB ⊢
 have HX:=hid_ (And.intro hx0 hB)
 clear hx0 hB
 go_wp2_with ((with_reducible refine aZD (t:=41) (p:=2) rfl ?_);refine wpList_store_row rfl 41 (.tmp 2) (.tmp 13) rfl w.heap.size (rdC 0 0) rfl rfl 41 (rdC 0 0) HX.out.1 (bZe 0 0) (bZg 0 0 0 0) (bZ5 0 0) ?_)
 refine bodyPost_ret (v:=rdV 0 0) (results16 _ _ w.heap.size 0 0 ?_ (setRow_heap _ _ _ _ _ _ HX.out.1)) ?_ ?_
 · kernel_rfl
 · kernel_rfl
 · exact ⟨rfl,below_setRow HX.out.2 (Nat.le_refl _) _⟩
def bm (n m:Nat):Array Bool:=((List.range n).map fun i=>m.testBit i).toArray
def read.T6:Bool × List (List Nat × List Nat):=(true,[([],[]),([0],[0]),([1],[1]),([2],[2]),([],[]),([4],[4]),([5],[5]),([6],[6]),([],[]),([8],[8]),([9],[9]),([10],[10]),([3,7,11],[3,7,11]),([],[]),([13,12,0,1,2,3,4,5,6,7,8,9,10,11,12,13],[12,13])])
def read.B6:List Nat:=[0,1,3,7,0,16,48,112,0,256,768,1792,4095,0,16383]
theorem read.tab6:rtab .any (cZt Try.f16 6)=read.T6:=by kernel_rfl
theorem read.bits6:bZy read.T6.2 read.B6=true:=by kernel_rfl
theorem fZh (w:World) (F:Nat) (n i:Int) (hn:n≠0) (hF:w.heap[F]?=some (.cells #[.int .i64 n,.int .i64 i,.string ⟨#[]⟩,.nilIface] 98 (0,0))):Calls Try.prog 16 #[.iface 95 (.pointer (some ⟨F,0,none⟩))] w fun e w'=>e=.returned (rdV n i)∧Below w.heap.size w w':=by
 have hta:∀ w,(Instr.typeAssert (.iface 95 (.pointer (some ⟨F,0,none⟩))) 33 95 true).run Try.prog w=.ok (.tuple #[.pointer (some ⟨F,0,none⟩),.bool true]) w:=fun w=>by
  simp [Instr.typeAssert,go_sem,run_underlying Try.underlying95]
 have dn:(n == 0)=false:=by simp [hn]
 have hb0:Below w.heap.size w (w.alloc (rdO 0 0)):=aZa (Below.refl _ _) _
 have hF0:=(hb0.block F (aZd hF)).trans hF
 have hx0:=heap_alloc_new w (rdO 0 0)
 have lF0:=aZd hF
 have HN:=hid_ hn
 clear hn hF
 go_enter Try.func16,Try.ntmps16
 go_upto_region 1 with (fail)
 generalize hW:w.alloc (rdO 0 0)=W at hb0 hF0 hx0 ⊢
 have lF:=aZd hF0
 obtain ⟨f0,f1,f2,f3⟩:W.cell? ⟨F,0,none⟩=some (.int .i64 n)∧W.cell? ⟨F,1,none⟩=some (.int .i64 i)∧W.cell? ⟨F,2,none⟩=some (.string ⟨#[]⟩)∧W.cell? ⟨F,3,none⟩=some .nilIface:=by simp [World.cell?,hF0]
 have sW:W.heap.size=w.heap.size+1:=by rw [←hW];simp
 clear hW
 have HX:=hid_ hx0
 have HB:=hid_ hb0
 have HS:=hid_ sW
 clear hx0 hb0 sW
 go_upto_region 6 with (fail)
 refine cZ0 (n:=15) (S:=fun w'=>w'.heap[F]?=some (.cells #[.int .i64 n,.int .i64 i,.string ⟨#[]⟩,.nilIface] 98 (0,0))∧Below W.heap.size W w') (ds:=[]) (bm 15 0) (by kernel_rfl) rfl (by kernel_rfl) ⟨hF0,(Below.refl _ _).drew⟩ (fun hHeld=>?_)
 refine bZa read.tab6 read.bits6 (fun HT_ HW_=>?_)
 refine aZC (i:=0) (N:=some 33) (v:=?_) (a':=?_) (bm 15 1) rfl rfl (aZl HT_.out (by kernel_rfl)) (fun _ _ _ h=>h) (Or.inl ⟨by rfl,?_⟩) ?_ ?_;rotate_left;(intro w';go_simp;with_reducible rfl);rotate_left;(simp only [Act.put,sZa,sZb,sZc];rfl)
 refine aZC (i:=1) (N:=some 34) (v:=?_) (a':=?_) (bm 15 3) rfl rfl (aZl HT_.out (by kernel_rfl)) (fun _ _ _ h=>h) (Or.inl ⟨by rfl,?_⟩) ?_ ?_;rotate_left;(intro w';go_simp;with_reducible rfl);rotate_left;(simp only [Act.put,sZa,sZb,sZc];rfl)
 refine aZC (i:=2) (N:=some 35) (v:=?_) (a':=?_) (bm 15 7) rfl rfl (aZl HT_.out (by kernel_rfl)) (fun _ _ _ h=>h) (Or.inl ⟨by rfl,?_⟩) ?_ ?_;rotate_left;(intro w';go_simp;with_reducible rfl);rotate_left;(simp only [Act.put,sZa,sZb,sZc];rfl)
 refine aZC (i:=4) (N:=some 37) (v:=?_) (a':=?_) (bm 15 23) rfl rfl (aZl HT_.out (by kernel_rfl)) (fun _ _ _ h=>h) (Or.inl ⟨by rfl,?_⟩) ?_ ?_;rotate_left;(intro w';go_simp;with_reducible rfl);rotate_left;(simp only [Act.put,sZa,sZb,sZc];rfl)
 refine aZC (i:=5) (N:=some 38) (v:=?_) (a':=?_) (bm 15 55) rfl rfl (aZl HT_.out (by kernel_rfl)) (fun _ _ _ h=>h) (Or.inl ⟨by rfl,?_⟩) ?_ ?_;rotate_left;(intro w';go_simp;with_reducible rfl);rotate_left;(simp only [Act.put,sZa,sZb,sZc];rfl)
 refine aZC (i:=6) (N:=some 39) (v:=?_) (a':=?_) (bm 15 119) rfl rfl (aZl HT_.out (by kernel_rfl)) (fun _ _ _ h=>h) (Or.inl ⟨by rfl,?_⟩) ?_ ?_;rotate_left;(intro w';go_simp;with_reducible rfl);rotate_left;(simp only [Act.put,sZa,sZb,sZc];rfl)
 refine aZC (i:=8) (N:=some 41) (v:=?_) (a':=?_) (bm 15 375) rfl rfl (aZl HT_.out (by kernel_rfl)) (fun _ _ _ h=>h) (Or.inl ⟨by rfl,?_⟩) ?_ ?_;rotate_left;(intro w';go_simp;with_reducible rfl);rotate_left;(simp only [Act.put,sZa,sZb,sZc];rfl)
 refine aZC (i:=9) (N:=some 42) (v:=?_) (a':=?_) (bm 15 887) rfl rfl (aZl HT_.out (by kernel_rfl)) (fun _ _ _ h=>h) (Or.inl ⟨by rfl,?_⟩) ?_ ?_;rotate_left;(intro w';go_simp;with_reducible rfl);rotate_left;(simp only [Act.put,sZa,sZb,sZc];rfl)
 refine aZC (i:=10) (N:=some 43) (v:=?_) (a':=?_) (bm 15 1911) rfl rfl (aZl HT_.out (by kernel_rfl)) (fun _ _ _ h=>h) (Or.inl ⟨by rfl,?_⟩) ?_ ?_;rotate_left;(intro w';go_simp;with_reducible rfl);rotate_left;(simp only [Act.put,sZa,sZb,sZc];rfl)
 refine take_ (i:=3) (N:=some 36) (v:=?_) (a':=?_) (bm 15 1919) rfl rfl (aZz HT_.out HW_.out (by kernel_rfl)) (fun _ _ _ h=>h) (Or.inl ⟨by rfl,?_⟩) hHeld ?_ ?_
 rotate_left
 ·
  rintro w' ⟨sF,_⟩
  obtain ⟨s0,s1,s2⟩:w'.cell? ⟨F,0,none⟩=some (.int .i64 n)∧w'.cell? ⟨F,1,none⟩=some (.int .i64 i)∧w'.cell? ⟨F,2,none⟩=some (.string ⟨#[]⟩):=by simp [World.cell?,sF]
  go_simp
  with_reducible rfl
 rotate_left
 ·
  simp only [Act.put,sZa,sZb,sZc]
  rfl
 refine take_ (i:=7) (N:=some 40) (v:=?_) (a':=?_) (bm 15 2047) rfl rfl (aZz HT_.out HW_.out (by kernel_rfl)) (fun _ _ _ h=>h) (Or.inl ⟨by rfl,?_⟩) hHeld ?_ ?_
 rotate_left
 ·
  rintro w' ⟨sF,_⟩
  obtain ⟨s0,s1,s2⟩:w'.cell? ⟨F,0,none⟩=some (.int .i64 n)∧w'.cell? ⟨F,1,none⟩=some (.int .i64 i)∧w'.cell? ⟨F,2,none⟩=some (.string ⟨#[]⟩):=by simp [World.cell?,sF]
  go_simp
  with_reducible rfl
 rotate_left
 ·
  simp only [Act.put,sZa,sZb,sZc]
  rfl
 refine take_ (i:=11) (N:=some 44) (v:=?_) (a':=?_) (bm 15 4095) rfl rfl (aZz HT_.out HW_.out (by kernel_rfl)) (fun _ _ _ h=>h) (Or.inl ⟨by rfl,?_⟩) hHeld ?_ ?_
 rotate_left
 ·
  rintro w' ⟨sF,_⟩
  obtain ⟨s0,s1,s2⟩:w'.cell? ⟨F,0,none⟩=some (.int .i64 n)∧w'.cell? ⟨F,1,none⟩=some (.int .i64 i)∧w'.cell? ⟨F,2,none⟩=some (.string ⟨#[]⟩):=by simp [World.cell?,sF]
  go_simp
  with_reducible rfl
 rotate_left
 ·
  simp only [Act.put,sZa,sZb,sZc]
  rfl
 refine aZC (i:=12) (N:=some 45) (v:=?_) (a':=?_) (bm 15 8191) rfl rfl (aZl HT_.out (by kernel_rfl)) (fun _ _ _ h=>h) (Or.inl ⟨by rfl,?_⟩) ?_ ?_;rotate_left;(intro w';go_simp;with_reducible rfl);rotate_left;(simp only [Act.put,sZa,sZb,sZc];rfl)
 refine one_ (i:=13) (N:=some 5) (bm 15 16383) rfl rfl (aZU HT_.out (by kernel_rfl)) (by decide) (fun K hK=>?_)
 refine box_step (cs:=rdC 0 0) (t:=41) (by rfl) rfl (by first|(go_simp;done)|(go_simp;rfl)) ?_
 intro g1 hg1 w1 hA hB1
 obtain ⟨s0,s3⟩:=hHeld
 refine hK.out _ _ ⟨(hB1.block F lF).trans s0,s3.trans hB1⟩ (fun hHeld=>?_)
 clear hK K
 refine eZ7 (a':=?_) ?_ ?_
 rotate_left
 ·
  show Act.put _ (some 5) _=_
  simp only [Act.put,sZa,sZb,sZc]
  rfl
 refine one_ (i:=14) (N:=none) (bm 15 32767) rfl rfl (aZU HT_.out (by kernel_rfl)) (by decide) (fun K hK=>?_)
 rw [if_pos (by rfl)]
 refine wp_store_row 41 (.tmp 5) (.tmp 45) rfl g1 (rdC n i) rfl rfl 41 (rdC 0 0) hA (bZe n i) (bZg 0 0 n i) (bZ5 n i) ?_
 obtain ⟨s0,s3⟩:=hHeld
 have hbg:Below W.heap.size W (w1.setRow g1 (rdC n i)):=below_setRow s3 (by rw [hg1];exact Nat.le_refl _) _
 have hC:=setRow_heap _ _ _ (rdC n i) _ _ hA
 refine hK.out _ _ ⟨(hbg.block F lF).trans hF0,hbg⟩ (fun hHeld=>?_)
 clear hK K
 refine eZl (bZ8 HT_.out (by kernel_rfl)) ?_
 obtain ⟨fF,hW2⟩:=hHeld
 generalize hV:w1.setRow g1 (rdC n i)=V at hC fF hW2 hbg ⊢
 clear hV hA hbg s0 s3 f0 f1 f2
 have f3':V.cell? ⟨F,3,none⟩=some .nilIface:=by simp [World.cell?,fF]
 have HV:=hid_ hW2
 have HC:=hid_ hC
 clear f3 hW2 hC fF hF0
 have lV:V.heap[w.heap.size]?=some (rdO 0 0):=(HV.out.block _ (by rw [HS.out];exact Nat.lt_succ_self _)).trans HX.out
 have HL:=hid_ lV
 clear lV HT_ HW_ hta hg1 s0 s3 hB1
 go_wp2_with (fail)
 refine wp_loop_once ?_
 go_upto_region 24 with (fail)
 go_upto_region 26 with (fail)
 go_wp2_with (first|((with_reducible refine cZq (N:=97) rfl ?_);refine wpList_load_row rfl 41 (.tmp 5) rfl g1 rfl 41 (rdC n i) (0,0) _ HC.out Try.underlying41 rfl (by kernel_rfl) ?_)|((with_reducible refine aZD (t:=41) (p:=2) rfl ?_);refine wpList_store_row rfl 41 (.tmp 2) (.tmp 97) rfl w.heap.size (rdC n i) rfl rfl 41 (rdC 0 0) HL.out (bZe n i) (bZg 0 0 n i) (bZ5 n i) ?_))
 refine bodyPost_ret (v:=rdV n i) (results16 _ _ w.heap.size n i ?_ (setRow_heap _ _ _ _ _ _ HL.out)) ?_ ?_
 · kernel_rfl
 · kernel_rfl
 ·
  refine ⟨rfl,below_setRow ?_ (Nat.le_refl _) _⟩
  exact HB.out.trans (HV.out.mono (by rw [HS.out];exact Nat.le_succ _))
end Go.Proofs.Ytbnplhmmbnmagaa.D
