/- The audit's walks: the map from places to states. -/
import Derived.Test.YtbnplhmmbnmagaazAMm6
import Derived.Maps.Own
set_option linter.all false
namespace Go.Proofs.Ytbnplhmmbnmagaa.D
open Go.RowKit Go.Proofs.YtbnplhmmbnmagaaW.PrintWords Go.Proofs.YtbnplhmmbnmagaaW.PrintLast Go.Proofs.YtbnplhmmbnmagaaW.PrintMore Go.Proofs.Ytbnplhmmbnmagaa.All
open Go.ChangeMaps Go.MapKept
structure HS where
  p:Nat
  vs:Value
  vl:Value
structure St where
  stk:List Int
  loc:List Int
  joined:Bool
def look {α:Type}:List (Int × α)→Int→Option α
  | [],_=>none
  | (j,h) :: r,k=>if j=k then some h else look r k
def del {α:Type}:List (Int × α)→Int→List (Int × α)
  | [],_=>[]
  | (j,h) :: r,k=>if j=k then r else (j,h) :: del r k
def entV (x:Int × HS):Value × Value:=(.int .i64 x.1,.pointer (some ⟨x.2.p,0,none⟩))
def MapAt (W:World) (m:Nat) (M:List (Int × HS)):Prop :=
  ∃ es clk,W.heap[m]?=some (.map es clk)∧es.toList.map (fun e=>(e.key,e.val))=M.map entV
theorem cZY (k:Int):∀ (es:List MapEntry) (M:List (Int × HS)) (i:Nat),es.map (fun e=>(e.key,e.val))=M.map entV →
 ∃ j,Instr.findNow (.int .i64) (.int .i64 k) es i=some ((look M k).map fun h=>(i+j,.pointer (some ⟨h.p,0,none⟩)))∧(look M k≠none→j<es.length∧(es.eraseIdx j).map (fun e=>(e.key,e.val))=(del M k).map entV)
 | [],[],i,_=>⟨0,rfl,fun h=>absurd rfl h⟩
 | [],_ :: _,i,h=>by simp at h
 | _ :: _,[],i,h=>by simp at h
 | e :: es,(q,hs) :: M,i,h=>by
  simp only [List.map_cons,List.cons.injEq] at h
  obtain ⟨h1,h2⟩:=h
  have e1:e.key=.int .i64 q:=congrArg Prod.fst h1
  have e2:e.val=.pointer (some ⟨hs.p,0,none⟩):=congrArg Prod.snd h1
  by_cases hk:q=k
  ·
   subst hk
   refine ⟨0,?_,fun _=>⟨by simp,?_⟩⟩
   · simp [Instr.findNow,Instr.sameNow,e1,e2,look]
   · simpa [del] using h2
  ·
   obtain ⟨j,h3,h4⟩:=cZY k es M (i+1) h2
   have hk2:(k == q)=false:=by rw [beq_eq_false_iff_ne];exact fun e=>hk e.symm
   refine ⟨j+1,?_,fun hl=>?_⟩
   ·
    simp only [Instr.findNow,Instr.sameNow,e1,if_pos,hk2,look,if_neg hk]
    rw [h3,show i+1+j=i+(j+1) by omega]
   ·
    obtain ⟨h5,h6⟩:=h4 (by simpa [look,hk] using hl)
    refine ⟨by simp;omega,?_⟩
    simp only [List.eraseIdx_cons_succ,List.map_cons,del,if_neg hk,h6]
    rw [show (e.key,e.val)=entV (q,hs) from h1]
theorem gZR (W:World):(zeroValue 166).run Try.prog W=.ok (.pointer none) W:=by kernel_rfl
theorem bZ2 {k:Int} {es:List MapEntry} {r:Option (Nat × Value)} (h:Instr.findNow (.int .i64) (.int .i64 k) es 0=some r) (W:World):(Instr.findKey 3 (.int .i64 k) es).run Try.prog W=.ok r W:=by
  simp [Instr.findKey,run_underlying Try.underlying3,h]
theorem bZH (b:Bool) (k:Int) (W:World):(Instr.checkKey b 10000 3 (.int .i64 k)).run Try.prog W=.ok () W:=by
  exact MapKept.run_checkKey (w:=W) (k:=.int .i64 k) Try.underlying3 (by simp [IsKey]) b 9999
theorem cZs {W:World} {m:Nat} {M:List (Int × HS)} (h:MapAt W m M) (k:Int) :
    (Instr.lookup 87 (.map (some m)) (.int .i64 k) true).run Try.prog W=.ok (.tuple #[.pointer ((look M k).map fun h=>⟨h.p,0,none⟩),.bool (look M k).isSome]) W:=by
  obtain ⟨es,clk,hb,he⟩:=h
  obtain ⟨j,h1,-⟩:=cZY k es.toList M 0 he
  cases hl:look M k with
  | none =>
    rw [hl] at h1
    simp [Instr.lookup,run_underlying Try.underlying87,MapKept.run_getObj_map hb,bZH,bZ2 h1,Result.andThen,gZR]
  | some x =>
    rw [hl] at h1
    simp [Instr.lookup,run_underlying Try.underlying87,MapKept.run_getObj_map hb,bZH,bZ2 h1,Result.andThen]
theorem bZx {W:World} {m:Nat} {es:Array MapEntry} {clk:Nat} {o2:Obj} (hb:W.heap[m]?=some (.map es clk)):W.grownBy (setBlock W m o2) (some m) :=
  ⟨rfl,rfl,rfl,by simp [setBlock],fun i _ hi=>heap_setBlock_other hb _ (fun e=>hi (by rw [e]))⟩
theorem eZ4 {W:World} {m:Nat} {M:List (Int × HS)} (h:MapAt W m M) (k:Int) (hk:look M k≠none) (ty:TypeId) :
 ∃ W',(Builtin.delete_ #[87,3] ty #[.map (some m),.int .i64 k]).run Try.prog W=.ok (.tuple #[]) W'∧MapAt W' m (del M k)∧W.grownBy W' (some m):=by
 obtain ⟨es,clk,hb,he⟩:=h
 obtain ⟨j,h1,h2⟩:=cZY k es.toList M 0 he
 obtain ⟨h3,h4⟩:=h2 hk
 obtain ⟨x,hx⟩:=Option.ne_none_iff_exists'.1 hk
 rw [hx] at h1
 refine ⟨setBlock W m (.map (es.eraseIdxIfInBounds j) clk),?_,⟨_,_,heap_setBlock_same hb _,?_⟩,bZx hb⟩
 · simp [Builtin.delete_,run_underlying Try.underlying87,MapKept.run_getObj_map hb,bZH,bZ2 h1,Result.andThen,MapKept.run_setObj_map _ hb,setBlock]
 ·
  simp [Array.eraseIdxIfInBounds,show j<es.size by simpa using h3]
  simpa using h4
theorem fZI {W:World} {m:Nat} {M:List (Int × HS)} (h:MapAt W m M) (ty:TypeId) :
 ∃ W',(Builtin.clear_ #[87] ty #[.map (some m)]).run Try.prog W=.ok (.tuple #[]) W'∧MapAt W' m []∧W.grownBy W' (some m):=by
 obtain ⟨es,clk,hb,he⟩:=h
 refine ⟨setBlock W m (.map #[] clk),?_,⟨_,_,heap_setBlock_same hb _,?_⟩,bZx hb⟩
 · simp [Builtin.clear_,run_underlying Try.underlying87,MapKept.run_getObj_map hb,Result.andThen,MapKept.run_setObj_map _ hb,setBlock]
 · simp
end Go.Proofs.Ytbnplhmmbnmagaa.D
