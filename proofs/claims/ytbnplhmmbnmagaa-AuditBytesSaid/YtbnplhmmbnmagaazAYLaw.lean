/- AuditBytes: for every input that can be read as data the call returns true and the arguments read as before. The walk is the printed one; what is said of numbers and lists is proved in YtbnplhmmbnmagaaPureAuditBytes. No condition. -/
import Derived.Test.YtbnplhmmbnmagaaRows
import Derived.Test.YtbnplhmmbnmagaazAYm35
import Derived.Test.YtbnplhmmbnmagaazAYm37
import Derived.WalkKit
import Derived.ProofKit
import Derived.OpenShut
import Derived.ShutString
import Derived.ChangeOld
import Derived.Below
import Derived.SizedLaws
set_option maxRecDepth 100000
set_option linter.unusedVariables false
namespace Go.Proofs.Ytbnplhmmbnmagaa.auditBytes
open Go.ChangeShapes Go.WideShapes Go.ChangeAt Go.RowKit Go.Proofs.YtbnplhmmbnmagaaO Go.Proofs.YtbnplhmmbnmagaaW.PrintWords Go.Proofs.Ytbnplhmmbnmagaa.StatAuditBytes
theorem own:ownKnob Try.prog.godebug=none:=by kernel_rfl
theorem laidOut:laidOutB Try.prog=true:=by kernel_rfl
theorem lifted (os:Os) (started:os.Started) (H:Type) (enc:TypeId × Value→H) :
    ReturnsInHanded {} Try.checked os 4 .any (Rows.auditBytesSpec.pre6 enc Try.prog Try.f4 Rows.auditBytesRow.domain false) (Rows.auditBytesSpec.post enc Try.prog Try.f4 false true false false):=by
  refine returnsInHanded_of_change_sized (C:=Try.checked) own started (by kernel_rfl) Try.func4
    (ChangeSpec.witness6 (enc:=enc) (C:=Try.checked) false ⟨#[],#[.slice none 0 0],[]⟩ 8 (by kernel_rfl) (by kernel_rfl) (by kernel_rfl) (by kernel_rfl)) ?_
  intro W base args ds gs before hval0 hW hcnd hsz0 _
  have hsz:(DataW.weightsEach Try.prog (Try.f4.params.toList++Rows.auditBytesSpec.plain.varTypes Try.prog) (ds++gs)).all (·≤reachBytes)=true:=hsz0
  have hval:∀ (j:Nat) t v,Try.f4.params[j]?=some t→args[j]?=some v→Value.okWide Try.prog W .any base t v:=hval0
  have hW':=hW
  obtain ⟨p,q,hA0,hV,rfl,hfz,hnd⟩:=hW
  have hA:DataW.TrodAll enc Try.prog W 0 (fun _=>true) true Try.f4.params.toList args.toList ds p:=hA0
  rw [Try.params4] at hA hval hsz
  obtain ⟨v0,vs0,d0,ds0,p0,q0,hargs,rfl,rfl,h0,r0⟩:=trodAll_cons hA
  obtain ⟨rfl,rfl,rfl⟩:=trodAll_nil r0
  obtain rfl:args=#[v0]:=by cases args;simp_all
  obtain ⟨rfl,rfl⟩:=trodVars_none hV
  have lt0:∀ x∈p0,x.block<W.heap.size:=by obtain ⟨m,hm⟩:=h0;exact DataW.trod_lt m _ _ _ hm
  obtain ⟨y0,hK0,hB0⟩:=opened StatAuditBytes.q0 hsz (j:=0) rfl rfl h0
  obtain ⟨a0,len0,cap0,rfl⟩:=okWide_slice Try.underlying53 (hval 0 53 v0 rfl rfl)
  obtain ⟨rfl,hl0,hC0⟩:=fZL hK0
  have hk:=Pure.AuditBytes y0 hB0
  clear hA0 hval0 hsz0 hsz
  refine (D.berthlaw21_AuditBytes.calls a0 cap0 y0 true W hC0 hl0 hk).mono fun e W' ⟨he,bel0⟩=>?_
  have bel:Below W.heap.size W W':=bel0
  subst he
  exact ⟨_,rfl,_,_,_,[],_,[],hW',trodAll_mk1 (shut_bool Try.underlying4 _),(trodAll_cons_mk (Below.trod laidOut (by kernel_rfl) (of_decide_eq_true (by kernel_rfl)) h0 bel lt0) trodAll_mk0),rfl,bel.frame _,fun h=>by cases h⟩
theorem over:Rows.auditBytesRow.holds Try.pinned (OpenSpec.ofChange Rows.auditBytesSpec) :=
  OpenClaim.holds_of_wide 4 Try.f4 rfl rfl rfl rfl rfl rfl rfl ⟨rfl,rfl,rfl,rfl,rfl⟩ rfl rfl rfl rfl rfl (by kernel_rfl) Try.func4 (by kernel_rfl)
    (of_decide_eq_true (by kernel_rfl)) (by unfold Func.isWrapper;first|(rw [if_pos (by decide +kernel)];kernel_rfl)|(rw [if_neg (by decide +kernel)];exact ⟨rfl,rfl⟩))
    (fun os started H enc _=>lifted os started H enc)
theorem proved:Rows.AuditBytesSaid:=over
#print axioms proved
end Go.Proofs.Ytbnplhmmbnmagaa.auditBytes
namespace Go.Proofs.Ytbnplhmmbnmagaa
theorem auditBytes_holds:Rows.AuditBytesSaid:=auditBytes.proved
end Go.Proofs.Ytbnplhmmbnmagaa
