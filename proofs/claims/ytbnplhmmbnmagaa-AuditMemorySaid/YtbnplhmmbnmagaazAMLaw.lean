/- AuditMemory: for every input that can be read as data the call returns true and the arguments read as before. The walk is the printed one; what is said of numbers and lists is proved in YtbnplhmmbnmagaaPureAuditMemory. No condition. -/
import Derived.Test.YtbnplhmmbnmagaaRows
import Derived.Test.YtbnplhmmbnmagaazAMm24
import Derived.Test.YtbnplhmmbnmagaazAMm26
import Derived.WalkKit
import Derived.ProofKit
import Derived.OpenShut
import Derived.ShutString
import Derived.ChangeOld
import Derived.Below
import Derived.SizedLaws
set_option maxRecDepth 100000
set_option linter.all false
namespace Go.Proofs.Ytbnplhmmbnmagaa.auditMemory
open Go.ChangeShapes Go.WideShapes Go.ChangeAt Go.RowKit Go.Proofs.YtbnplhmmbnmagaaO Go.Proofs.YtbnplhmmbnmagaaW.PrintWords Go.Proofs.Ytbnplhmmbnmagaa.StatAuditMemory
theorem own:ownKnob Try.prog.godebug=none:=by kernel_rfl
theorem laidOut:laidOutB Try.prog=true:=by kernel_rfl
theorem lifted (os:Os) (started:os.Started) (H:Type) (enc:TypeId × Value→H) :
    ReturnsInHanded {} Try.checked os 8 .any (Rows.auditMemorySpec.pre6 enc Try.prog Try.f8 Rows.auditMemoryRow.domain false) (Rows.auditMemorySpec.post enc Try.prog Try.f8 false true false false):=by
  refine returnsInHanded_of_change_sized (C:=Try.checked) own started (by kernel_rfl) Try.func8
    (ChangeSpec.witness6 (enc:=enc) (C:=Try.checked) false ⟨#[],#[.agg #[.slice none 0 0,.slice none 0 0,.slice none 0 0,.slice none 0 0,.slice none 0 0,.int .i64 0,.int .i64 0],.slice none 0 0],[]⟩ 8 (by kernel_rfl) (by kernel_rfl) (by kernel_rfl) (by kernel_rfl)) ?_
  intro W base args ds gs before hval0 hW hcnd hsz0 _
  have hsz:(DataW.weightsEach Try.prog (Try.f8.params.toList++Rows.auditMemorySpec.plain.varTypes Try.prog) (ds++gs)).all (·≤reachBytes)=true:=hsz0
  have hval:∀ (j:Nat) t v,Try.f8.params[j]?=some t→args[j]?=some v→Value.okWide Try.prog W .any base t v:=hval0
  have hW':=hW
  obtain ⟨p,q,hA0,hV,rfl,hfz,hnd⟩:=hW
  have hA:DataW.TrodAll enc Try.prog W 0 (fun _=>true) true Try.f8.params.toList args.toList ds p:=hA0
  rw [Try.params8] at hA hval hsz
  obtain ⟨v0,vs0,d0,ds0,p0,q0,hargs,rfl,rfl,h0,r0⟩:=trodAll_cons hA
  obtain ⟨v1,vs1,d1,ds1,p1,q1,rfl,rfl,rfl,h1,r1⟩:=trodAll_cons r0
  obtain ⟨rfl,rfl,rfl⟩:=trodAll_nil r1
  obtain rfl:args=#[v0,v1]:=by cases args;simp_all
  obtain ⟨rfl,rfl⟩:=trodVars_none hV
  have lt0:∀ x∈p0,x.block<W.heap.size:=by obtain ⟨m,hm⟩:=h0;exact DataW.trod_lt m _ _ _ hm
  obtain ⟨y0,hK0,hB0⟩:=opened StatAuditMemory.q0 hsz (j:=0) rfl rfl h0
  obtain ⟨cs0,rfl,_⟩:=okWide_struct Try.underlying28 (hval 0 28 v0 rfl rfl)
  generalize hcs0:(Value.agg cs0).cells.toList=l0 at hK0
  obtain rfl:=iZv hcs0
  obtain ⟨ehK0_0,fhK0_0,rfl,hK0_0,hK0_r0⟩:=hK0
  obtain ⟨A0_0,c0_0,rfl,hl0_0,hC0_0⟩:=hK0_0
  obtain ⟨ehK0_1,fhK0_1,rfl,hK0_1,hK0_r1⟩:=hK0_r0
  obtain ⟨A0_1,c0_1,rfl,hl0_1,hC0_1⟩:=hK0_1
  obtain ⟨ehK0_2,fhK0_2,rfl,hK0_2,hK0_r2⟩:=hK0_r1
  obtain ⟨A0_2,c0_2,rfl,hl0_2,hC0_2⟩:=hK0_2
  obtain ⟨ehK0_3,fhK0_3,rfl,hK0_3,hK0_r3⟩:=hK0_r2
  obtain ⟨A0_3,c0_3,rfl,hl0_3,hC0_3⟩:=hK0_3
  obtain ⟨ehK0_4,fhK0_4,rfl,hK0_4,hK0_r4⟩:=hK0_r3
  obtain ⟨A0_4,c0_4,rfl,hl0_4,hC0_4⟩:=hK0_4
  obtain ⟨ehK0_5,fhK0_5,rfl,hK0_5,hK0_r5⟩:=hK0_r4
  obtain rfl:=hK0_5
  obtain rfl:=hK0_r5
  have lt1:∀ x∈p1,x.block<W.heap.size:=by obtain ⟨m,hm⟩:=h1;exact DataW.trod_lt m _ _ _ hm
  obtain ⟨y1,hK1,hB1⟩:=opened StatAuditMemory.q1 hsz (j:=1) rfl rfl h1
  obtain ⟨a1,len1,cap1,rfl⟩:=okWide_slice Try.underlying53 (hval 1 53 v1 rfl rfl)
  obtain ⟨rfl,hl1,hC1⟩:=fZ7 hK1
  have hk:=Pure.AuditMemory y0 y1 hB0 hB1
  clear hA0 hval0 hsz0 hsz
  refine (D.berthlaw21_AuditMemory.calls A0_0 c0_0 y0.f0 A0_1 c0_1 y0.f1 A0_2 c0_2 y0.f2 A0_3 c0_3 y0.f3 A0_4 c0_4 y0.f4 y0.f5 y0.f6 a1 cap1 y1 true W hC0_0 hl0_0 hC0_1 hl0_1 hC0_2 hl0_2 hC0_3 hl0_3 hC0_4 hl0_4 hC1 hl1 hk).mono fun e W' ⟨he,bel0⟩=>?_
  have bel:Below W.heap.size W W':=bel0
  subst he
  exact ⟨_,rfl,_,_,_,[],_,[],hW',trodAll_mk1 (shut_bool Try.underlying4 _),(trodAll_cons_mk (Below.trod laidOut (by kernel_rfl) (of_decide_eq_true (by kernel_rfl)) h0 bel lt0) (trodAll_cons_mk (Below.trod laidOut (by kernel_rfl) (of_decide_eq_true (by kernel_rfl)) h1 bel lt1) trodAll_mk0)),rfl,bel.frame _,fun h=>by cases h⟩
theorem over:Rows.auditMemoryRow.holds Try.pinned (OpenSpec.ofChange Rows.auditMemorySpec) :=
  OpenClaim.holds_of_wide 8 Try.f8 rfl rfl rfl rfl rfl rfl rfl ⟨rfl,rfl,rfl,rfl,rfl⟩ rfl rfl rfl rfl rfl (by kernel_rfl) Try.func8 (by kernel_rfl)
    (of_decide_eq_true (by kernel_rfl)) (by unfold Func.isWrapper;first|(rw [if_pos (by decide +kernel)];kernel_rfl)|(rw [if_neg (by decide +kernel)];exact ⟨rfl,rfl⟩))
    (fun os started H enc _=>lifted os started H enc)
theorem proved:Rows.AuditMemorySaid:=over
#print axioms proved
end Go.Proofs.Ytbnplhmmbnmagaa.auditMemory
namespace Go.Proofs.Ytbnplhmmbnmagaa
theorem auditMemory_holds:Rows.AuditMemorySaid:=auditMemory.proved
end Go.Proofs.Ytbnplhmmbnmagaa
