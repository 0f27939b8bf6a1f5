/- The audit's walks: slices.Clone. -/
import Derived.Test.YtbnplhmmbnmagaazAMm5
import Derived.WalkSpells
set_option maxHeartbeats 4000000
set_option maxRecDepth 100000
set_option linter.all false
namespace Go.Proofs.Ytbnplhmmbnmagaa.D
open Go.RowKit Go.Proofs.YtbnplhmmbnmagaaW.PrintWords Go.Proofs.YtbnplhmmbnmagaaW.PrintLast Go.Proofs.YtbnplhmmbnmagaaW.PrintMore Go.Proofs.Ytbnplhmmbnmagaa.All
abbrev Row (W:World) (base:Nat) (ok:Nat→Prop) (v:Value) (l:List Int):Prop:=(Kd.int .i64).R 73 W base ok v l
theorem hZ3 {W:World} {base:Nat} {ok:Nat→Prop} {v:Value} {xs:List Int} (h:W.ownsRow base 73 1 v xs.length (xs.map (Value.int .i64))) (hok:∀ k,base≤k→ok k):Row W base ok v xs :=
  ⟨fun k hk=>hok k (bZo h k hk),xs.map (Value.int .i64),h,Kd.reps_scalar (enc:=Value.int .i64) xs⟩
theorem gZX (W:World):Row (W.alloc (.cells #[] 73)) W.heap.size (fun k=>W.heap.size≤k) (.slice (some ⟨W.heap.size,0,none⟩) 0 0) []:=by
  have h:=World.ownsRow_lit (base:=W.heap.size) (e:=73) (size:=1) W #[] 0 (Nat.le_refl _) (by simp [maxLen]) (by simp)
  exact hZ3 (xs:=[]) (by simpa using h) (fun k hk=>hk)
theorem gZH (W:World) (A:Option Addr) (c:Nat) (l:List Int) (hC:Kd.C (Kd.int .i64) W A l.length l) (hc:l.length≤c) (hl:l.length≤4096) :
 Calls Try.prog 94 #[.slice A l.length c] W fun e w'=>∃ v,e=.returned v∧Row w' W.heap.size (fun _=>True) v l∧Below W.heap.size W w':=by
 cases A with
 | none =>
  have h0:l=[]:=by
   cases l with
   | nil=>rfl
   | cons x r =>
    obtain ⟨ad,c,e,-⟩:=Kd.C_get hC (0:Int) 0 (by omega) (by simp)
    cases e
  subst h0
  have he:=fun (w:World)=>Lib.run_eql_slice_nil (P:=Try.prog) w 51 73 none 0 c 0 0 Try.underlying51
  go_enter Try.func94,Try.ntmps94
  go_wp2_with (fail)
  go_ret
  exact ⟨_,rfl,Kd.R_nil _ _ _ _ _,Below.refl _ _⟩
 | some ad =>
  have he:=fun (w:World)=>Lib.run_eql_slice_nil (P:=Try.prog) w 51 73 (some ad) l.length c 0 0 Try.underlying51
  have r1:=Kd.C_below hC (aZa (Below.refl W.heap.size W) (.cells #[] 73))
  go_enter Try.func94,Try.ntmps94
  go_wp2_with ((with_reducible refine aZh (b:=.append) (xs:=#[.tmp 5,.tmp 6]) rfl ?_);at_builtin;refine Kd.R_append_rows (Kd.int .i64) (w0:=W) W.heap.size rfl (.tmp 5) (.tmp 6) 51 73 (.int .i64 0) 8 rfl Try.underlying51 info73 rfl (by decide) (by omega) _ [] l (some ad) l.length c (fun k=>W.heap.size≤k) (fun _=>False) rfl rfl (gZX W) r1 (fun _ _ h=>h) (fun _ hk=>hk.elim) (fun k hk=>by simp at hk;omega) (aZa (Below.refl _ _) _) (by simp) (by simp only [List.length_nil];omega) ?_;intro v3 w3 hr3 hb3 hg3 _)
  go_ret
  exact ⟨_,rfl,Kd.R_mono hr3 (fun _ _=>trivial),hb3⟩
end Go.Proofs.Ytbnplhmmbnmagaa.D
