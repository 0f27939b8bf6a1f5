/- The bounds that a row hands over, type by type, and the plain statement of AuditMemory: about numbers and lists alone. -/
import Derived.Test.YtbnplhmmbnmagaazAMm24
import Derived.Test.YtbnplhmmbnmagaazAMm25
namespace Go.Proofs.Ytbnplhmmbnmagaa.StatAuditMemory
open Go.RowKit Go.Proofs.YtbnplhmmbnmagaaO Go.Proofs.YtbnplhmmbnmagaaW.PrintWords Go.Proofs.Ytbnplhmmbnmagaa.D Go.Proofs.Ytbnplhmmbnmagaa.All
def B66 (y:S66):Prop:=(InK .i64 y.f0)∧(InK .i64 y.f1)∧(InK .i64 y.f2)∧(InK .i64 y.f3)
theorem o66:dZU Try.prog 66 k66 B66:=gZk (fun p=>⟨p.1,p.2.1,p.2.2.1,p.2.2.2⟩) (fun _=>rfl) (eZg Try.underlying66 (by kernel_rfl) (aZ9 rfl (by kernel_rfl) (bZJ Try.underlying64) (aZ9 rfl (by kernel_rfl) (bZJ Try.underlying3) (aZ9 rfl (by kernel_rfl) (bZJ Try.underlying3) (fZk rfl (by kernel_rfl) (bZJ Try.underlying3))))))
def B28 (y:S28):Prop:=(y.f0.length*16≤140737488351232∧∀ x∈y.f0,x.size≤140737488351232)∧(y.f1.length*8≤140737488351232∧∀ x∈y.f1,InK .i64 x)∧(y.f2.length*24≤140737488351232∧∀ x∈y.f2,x.length*16≤140737488351232∧∀ xx∈x,xx.size≤140737488351232)∧(y.f3.length*24≤140737488351232∧∀ x∈y.f3,x.length*8≤140737488351232∧∀ xx∈x,InK .i64 xx)∧(y.f4.length*32≤140737488351232∧∀ x∈y.f4,B66 x)∧(InK .i64 y.f5)∧(InK .i64 y.f6)
theorem o28:dZU Try.prog 28 k28 B28:=gZk (fun p=>⟨p.1,p.2.1,p.2.2.1,p.2.2.2.1,p.2.2.2.2.1,p.2.2.2.2.2.1,p.2.2.2.2.2.2⟩) (fun _=>rfl) (eZg Try.underlying28 (by kernel_rfl) (aZ9 rfl (by kernel_rfl) (bZl (b:=16) Try.underlying22 (by kernel_rfl) (by kernel_rfl) (eZh Try.underlying9)) (aZ9 rfl (by kernel_rfl) (bZl (b:=8) Try.underlying23 (by kernel_rfl) (by kernel_rfl) (bZJ Try.underlying3)) (aZ9 rfl (by kernel_rfl) (bZl (b:=24) Try.underlying24 (by kernel_rfl) (by kernel_rfl) (bZl (b:=16) Try.underlying22 (by kernel_rfl) (by kernel_rfl) (eZh Try.underlying9))) (aZ9 rfl (by kernel_rfl) (bZl (b:=24) Try.underlying25 (by kernel_rfl) (by kernel_rfl) (bZl (b:=8) Try.underlying23 (by kernel_rfl) (by kernel_rfl) (bZJ Try.underlying3))) (aZ9 rfl (by kernel_rfl) (bZl (b:=32) Try.underlying26 (by kernel_rfl) (by kernel_rfl) o66) (aZ9 rfl (by kernel_rfl) (bZJ Try.underlying3) (fZk rfl (by kernel_rfl) (bZJ Try.underlying3)))))))))
theorem q0:dZU Try.prog 28 k28 (fun y=>B28 y):=o28
theorem q1:dZU Try.prog 53 (Kd.slice 5 (Kd.int .u8)) (fun y=>y.length*1≤140737488351232∧∀ x∈y,InK .u8 x):=(bZl (b:=1) Try.underlying53 (by kernel_rfl) (by kernel_rfl) (bZJ Try.underlying5))
def Pure:Prop:=∀ (y0:S28) (y1:List (Int)),(B28 y0)→(y1.length*1≤140737488351232∧∀ x∈y1,InK .u8 x)→berthlaw21_AuditMemory.f y0.f0 y0.f1 y0.f2 y0.f3 y0.f4 y0.f5 y0.f6 y1=some true
end Go.Proofs.Ytbnplhmmbnmagaa.StatAuditMemory
namespace Go.Proofs.Ytbnplhmmbnmagaa.Pure
open Go.RowKit Go.Proofs.YtbnplhmmbnmagaaO Go.Proofs.YtbnplhmmbnmagaaW.PrintWords Go.Proofs.YtbnplhmmbnmagaaW.PrintLast Go.Proofs.Ytbnplhmmbnmagaa.D Go.Proofs.Ytbnplhmmbnmagaa.All Go.Proofs.Ytbnplhmmbnmagaa.StatAuditMemory
theorem inK_u8m {x:Int} (h:InK .u8 x):0≤x∧x≤255:=by
  have:(Lit.int .u8 x).wf=true:=h
  simp [Lit.wf,IntKind.min,IntKind.max,IntKind.signed,IntKind.bits] at this
  omega
theorem AuditMemory:StatAuditMemory.Pure:=by
  intro y b h hb
  unfold B28 at h
  obtain ⟨h0,h1,h2,h3,h4,h5,h6⟩:=h
  unfold berthlaw21_AuditMemory.f
  rw [if_pos]
  exact ⟨⟨h0.1,h1.1,h2.1,h3.1,h4.1,fun x hx=>(h2.2 x hx).1,fun x hx=>(h3.2 x hx).1⟩,⟨fun x hx=>inK_u8m (hb.2 x hx),by omega⟩,by omega⟩
end Go.Proofs.Ytbnplhmmbnmagaa.Pure
