/- The audit's walks: letters, kinds, operands. -/
import Derived.Test.YtbnplhmmbnmagaazAMm0
import Derived.Lib.Bytealg
import Derived.Lib.Strings
import Derived.BigQuiet
import Derived.Deep.QuietTactic
set_option maxRecDepth 100000
set_option linter.all false
namespace Go.Proofs.Ytbnplhmmbnmagaa.D
open Go.RowKit Go.Proofs.YtbnplhmmbnmagaaW.PrintWords Go.Proofs.YtbnplhmmbnmagaaW.PrintLast Go.Proofs.YtbnplhmmbnmagaaW.PrintMore
theorem cZ4 (s:ByteArray) (c:Int) (w:World) :
 Calls Try.prog 111 #[.string s,.int .u8 c] w fun e w'=>e=.returned (.int .i64 (Lib.indexByte s.data.toList c.toNat.toUInt8))∧w'=w:=by
 go_enter Try.func111,Try.ntmps111
 go_wp2
 rw [run_callFunc_extern Try.func112 (by kernel_rfl) (by kernel_rfl) (by kernel_rfl) (e:=Extern.BytealgIndexByte.indexByte) (by kernel_rfl),Lib.run_indexByteString]
 simp only [Result.andThen]
 rw [Oper.upon_value]
 go_wp2
 go_ret
 exact ⟨rfl,rfl⟩
theorem dZV (s:ByteArray) (c:Int) (w:World) :
 Calls Try.prog 110 #[.string s,.int .u8 c] w fun e w'=>e=.returned (.int .i64 (Lib.indexByte s.data.toList c.toNat.toUInt8))∧w'=w:=by
 go_enter Try.func110,Try.ntmps110
 go_wp2_with (go_at_call 111;refine (cZ4 _ _ _).mono ?_;rintro e w' ⟨rfl,rfl⟩)
 go_ret
 exact ⟨rfl,rfl⟩
def cZV (c:Int):Int:=Lib.indexByte [78,80,84,73,83,77] c.toNat.toUInt8
theorem hZ9 (c:Int):-1≤cZV c∧cZV c≤5:=by
  unfold cZV
  simp only [Lib.indexByte]
  repeat' split
  all_goals simp_all
def cZb (c a:Int):Int:=if 0≤cZV c then cZV c+1 else wrap64 (a+1)
theorem hZO (c o a b d:Int) (w:World) :
 Calls Try.prog 107 #[.int .u8 c,.agg #[.int .i64 o,.int .i64 a,.int .i64 b,.int .i64 d]] w fun e w'=>e=.returned (.int .i64 (cZb c a))∧w'=w.alloc (.cells #[.int .i64 o,.int .i64 a,.int .i64 b,.int .i64 d] 66):=by
 have h:=hZ9 c
 have e0:∀ W:World,Calls Try.prog 110 #[.string ⟨#[78,80,84,73,83,77]⟩,.int .u8 c] W fun e w'=>e=.returned (.int .i64 (cZV c))∧w'=W:=fun W=>dZV _ _ _
 unfold cZb
 generalize cZV c=l at h e0
 by_cases hl:0≤l
 ·
  rw [if_pos hl]
  go_enter Try.func107,Try.ntmps107
  go_wp2_with (go_at_call 110;refine (e0 _).mono ?_;rintro e w' ⟨rfl,rfl⟩)
  go_ret
  exact ⟨rfl,rfl⟩
 ·
  rw [if_neg hl]
  go_enter Try.func107,Try.ntmps107
  go_wp2_with (go_at_call 110;refine (e0 _).mono ?_;rintro e w' ⟨rfl,rfl⟩)
  go_ret
  exact ⟨rfl,rfl⟩
def fitF (c l first:Int):Bool:=if l=42 then true else if l=66 then decide ((c=1∨c=2)∧c=first) else decide (c=cZb l 0)
theorem iZm (c:Int) (w:World):Calls Try.prog 109 #[.int .i64 c] w fun e w'=>e=.returned (.bool (decide (c=1∨c=2)))∧w'=w:=by
 by_cases h1:c=1
 ·
  subst h1
  go_enter Try.func109,Try.ntmps109
  go_wp2
  go_ret
  exact ⟨rfl,rfl⟩
 ·
  have d1:(c == 1)=false:=by simpa using h1
  by_cases h2:c=2
  ·
   subst h2
   go_enter Try.func109,Try.ntmps109
   go_wp2
   go_ret
   exact ⟨rfl,rfl⟩
  ·
   have d2:(c == 2)=false:=by simpa using h2
   have e:decide (c=1∨c=2)=false:=by simp [h1,h2]
   rw [e]
   go_enter Try.func109,Try.ntmps109
   go_wp2
   go_ret
   exact ⟨rfl,rfl⟩
theorem bZP (c l first:Int) (w:World) :
 Calls Try.prog 106 #[.int .i64 c,.int .u8 l,.int .i64 first] w fun e w'=>e=.returned (.bool (fitF c l first))∧Below w.heap.size w w':=by
 unfold fitF
 by_cases h1:l=42
 ·
  subst h1
  go_enter Try.func106,Try.ntmps106
  go_wp2_with (fail)
  go_ret
  exact ⟨rfl,Below.refl _ _⟩
 ·
  have d1:(l == 42)=false:=by simpa using h1
  rw [if_neg h1]
  by_cases h2:l=66
  ·
   subst h2
   rw [if_pos rfl]
   have hb:=iZm c
   by_cases h3:c=1∨c=2
   ·
    have hd:decide (c=1∨c=2)=true:=decide_eq_true h3
    rw [hd] at hb
    have e:decide ((c=1∨c=2)∧c=first)=(c == first):=by
     rw [Bool.eq_iff_iff];simp [h3]
    rw [e]
    clear e hd h3
    go_enter Try.func106,Try.ntmps106
    go_wp2_with ((with_reducible refine (hb _).mono ?_);rintro e w' ⟨rfl,rfl⟩)
    go_ret
    exact ⟨rfl,Below.refl _ _⟩
   ·
    have hd:decide (c=1∨c=2)=false:=decide_eq_false h3
    rw [hd] at hb
    have e:decide ((c=1∨c=2)∧c=first)=false:=decide_eq_false (fun h=>h3 h.1)
    rw [e]
    clear e hd h3
    go_enter Try.func106,Try.ntmps106
    go_wp2_with ((with_reducible refine (hb _).mono ?_);rintro e w' ⟨rfl,rfl⟩)
    go_ret
    exact ⟨rfl,Below.refl _ _⟩
  ·
   have d2:(l == 66)=false:=by simpa using h2
   rw [if_neg h2]
   have e:decide (c=cZb l 0)=(c == cZb l 0):=by rw [Bool.eq_iff_iff];simp
   rw [e]
   clear e
   have hc:=hZO l 0 0 0 0
   generalize cZb l 0=x at hc
   clear h1 h2
   go_enter Try.func106,Try.ntmps106
   go_wp2_with ((with_reducible refine (hc _).mono ?_);rintro e w' ⟨rfl,rfl⟩)
   go_ret
   exact ⟨rfl,aZa (Below.refl _ _) _⟩
end Go.Proofs.Ytbnplhmmbnmagaa.D
