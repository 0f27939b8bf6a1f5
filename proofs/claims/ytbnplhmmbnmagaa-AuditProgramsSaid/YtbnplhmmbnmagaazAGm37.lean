/- The bounds that a row hands over, type by type, and the plain statement of AuditPrograms: about numbers and lists alone. -/
import Derived.Test.YtbnplhmmbnmagaazAGm35
import Derived.Test.YtbnplhmmbnmagaazAGm36
namespace Go.Proofs.Ytbnplhmmbnmagaa.StatAuditPrograms
open Go.RowKit Go.Proofs.YtbnplhmmbnmagaaO Go.Proofs.YtbnplhmmbnmagaaW.PrintWords Go.Proofs.Ytbnplhmmbnmagaa.D Go.Proofs.Ytbnplhmmbnmagaa.All
def B66 (y:S66):Prop:=(InK .i64 y.f0)∧(InK .i64 y.f1)∧(InK .i64 y.f2)∧(InK .i64 y.f3)
theorem o66:dZu Try.prog 66 k66 B66:=fZh (fun p=>⟨p.1,p.2.1,p.2.2.1,p.2.2.2⟩) (fun _=>rfl) (dZC Try.underlying66 (by kernel_rfl) (aZ9 rfl (by kernel_rfl) (bZS Try.underlying64) (aZ9 rfl (by kernel_rfl) (bZS Try.underlying3) (aZ9 rfl (by kernel_rfl) (bZS Try.underlying3) (eZs rfl (by kernel_rfl) (bZS Try.underlying3))))))
def B28 (y:S28):Prop:=(y.f0.length*16≤140737488351232∧∀ x∈y.f0,x.size≤140737488351232)∧(y.f1.length*8≤140737488351232∧∀ x∈y.f1,InK .i64 x)∧(y.f2.length*24≤140737488351232∧∀ x∈y.f2,x.length*16≤140737488351232∧∀ xx∈x,xx.size≤140737488351232)∧(y.f3.length*24≤140737488351232∧∀ x∈y.f3,x.length*8≤140737488351232∧∀ xx∈x,InK .i64 xx)∧(y.f4.length*32≤140737488351232∧∀ x∈y.f4,B66 x)∧(InK .i64 y.f5)∧(InK .i64 y.f6)
theorem o28:dZu Try.prog 28 k28 B28:=fZh (fun p=>⟨p.1,p.2.1,p.2.2.1,p.2.2.2.1,p.2.2.2.2.1,p.2.2.2.2.2.1,p.2.2.2.2.2.2⟩) (fun _=>rfl) (dZC Try.underlying28 (by kernel_rfl) (aZ9 rfl (by kernel_rfl) (bZp (b:=16) Try.underlying22 (by kernel_rfl) (by kernel_rfl) (dZD Try.underlying9)) (aZ9 rfl (by kernel_rfl) (bZp (b:=8) Try.underlying23 (by kernel_rfl) (by kernel_rfl) (bZS Try.underlying3)) (aZ9 rfl (by kernel_rfl) (bZp (b:=24) Try.underlying24 (by kernel_rfl) (by kernel_rfl) (bZp (b:=16) Try.underlying22 (by kernel_rfl) (by kernel_rfl) (dZD Try.underlying9))) (aZ9 rfl (by kernel_rfl) (bZp (b:=24) Try.underlying25 (by kernel_rfl) (by kernel_rfl) (bZp (b:=8) Try.underlying23 (by kernel_rfl) (by kernel_rfl) (bZS Try.underlying3))) (aZ9 rfl (by kernel_rfl) (bZp (b:=32) Try.underlying26 (by kernel_rfl) (by kernel_rfl) o66) (aZ9 rfl (by kernel_rfl) (bZS Try.underlying3) (eZs rfl (by kernel_rfl) (bZS Try.underlying3)))))))))
theorem q0:dZu Try.prog 28 k28 (fun y=>B28 y):=o28
def Pure:Prop:=∀ (y0:S28),(B28 y0)→berthlaw21_AuditPrograms.f y0.f0 y0.f1 y0.f2 y0.f3 y0.f4 y0.f5 y0.f6=some true
end Go.Proofs.Ytbnplhmmbnmagaa.StatAuditPrograms
namespace Go.Proofs.Ytbnplhmmbnmagaa.Pure
open Go.RowKit Go.Proofs.YtbnplhmmbnmagaaO Go.Proofs.YtbnplhmmbnmagaaW.PrintWords Go.Proofs.YtbnplhmmbnmagaaW.PrintLast Go.Proofs.Ytbnplhmmbnmagaa.D Go.Proofs.Ytbnplhmmbnmagaa.All Go.Proofs.Ytbnplhmmbnmagaa.StatAuditPrograms
theorem AuditPrograms:StatAuditPrograms.Pure:=by
  intro y h
  unfold B28 at h
  obtain ⟨h0,h1,h2,h3,h4,h5,h6⟩:=h
  unfold berthlaw21_AuditPrograms.f
  rw [if_pos]
  exact ⟨h0.1,h1.1,h2.1,h3.1,h4.1,fun x hx=>(h2.2 x hx).1,fun x hx=>(h3.2 x hx).1⟩
end Go.Proofs.Ytbnplhmmbnmagaa.Pure
