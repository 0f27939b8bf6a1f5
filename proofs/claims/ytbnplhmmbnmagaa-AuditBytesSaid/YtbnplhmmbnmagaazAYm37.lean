/- The bounds that a row hands over, type by type, and the plain statement of AuditBytes: about numbers and lists alone. -/
import Derived.Test.YtbnplhmmbnmagaazAYm35
import Derived.Test.YtbnplhmmbnmagaazAYm36
namespace Go.Proofs.Ytbnplhmmbnmagaa.StatAuditBytes
open Go.RowKit Go.Proofs.YtbnplhmmbnmagaaO Go.Proofs.YtbnplhmmbnmagaaW.PrintWords Go.Proofs.Ytbnplhmmbnmagaa.D Go.Proofs.Ytbnplhmmbnmagaa.All
theorem q0:Opens Try.prog 53 (Kd.slice 5 (Kd.int .u8)) (fun y=>y.length*1≤140737488351232∧∀ x∈y,InK .u8 x):=(gZv (b:=1) Try.underlying53 (by kernel_rfl) (by kernel_rfl) (opens_int Try.underlying5))
def Pure:Prop:=∀ (y0:List (Int)),(y0.length*1≤140737488351232∧∀ x∈y0,InK .u8 x)→berthlaw21_AuditBytes.f y0=some true
end Go.Proofs.Ytbnplhmmbnmagaa.StatAuditBytes
namespace Go.Proofs.Ytbnplhmmbnmagaa.Pure
open Go.RowKit Go.Proofs.YtbnplhmmbnmagaaO Go.Proofs.YtbnplhmmbnmagaaW.PrintWords Go.Proofs.YtbnplhmmbnmagaaW.PrintLast Go.Proofs.Ytbnplhmmbnmagaa.D Go.Proofs.Ytbnplhmmbnmagaa.All Go.Proofs.Ytbnplhmmbnmagaa.StatAuditBytes
theorem inK_u8b {x:Int} (h:InK .u8 x):0≤x∧x≤255:=by
  have:(Lit.int .u8 x).wf=true:=h
  simp [Lit.wf,IntKind.min,IntKind.max,IntKind.signed,IntKind.bits] at this
  omega
theorem AuditBytes:StatAuditBytes.Pure:=by
  intro b hb
  unfold berthlaw21_AuditBytes.f
  rw [if_pos]
  exact ⟨⟨fun x hx=>inK_u8b (hb.2 x hx),by omega⟩,by omega⟩
end Go.Proofs.Ytbnplhmmbnmagaa.Pure
