/- A part of the proof of AuditBytes: walks written by a program of this session. -/
import Derived.Test.YtbnplhmmbnmagaazAYm2
set_option maxHeartbeats 4000000
set_option maxRecDepth 100000
set_option linter.unusedVariables false
set_option linter.unusedSimpArgs false
namespace Go.Proofs.Ytbnplhmmbnmagaa.All
open Go.RowKit Go.Proofs.YtbnplhmmbnmagaaW.PrintWords Go.Proofs.YtbnplhmmbnmagaaW.PrintLast Go.Proofs.YtbnplhmmbnmagaaW.PrintMore
attribute [local go_sem] bZn bZl bZR bZQ aZ6 aZ5 bZm bZk
attribute [local go_sem] Go.Proofs.YtbnplhmmbnmagaaX.binOp_leq Go.Proofs.YtbnplhmmbnmagaaX.binOp_geq Go.Proofs.YtbnplhmmbnmagaaX.binOp_gtr
def audit_rows.f :Option ((List (S165))):=some (([(⟨(⟨#[]⟩:ByteArray),(⟨#[]⟩:ByteArray),(⟨#[]⟩:ByteArray)⟩:S165),(⟨(⟨#[117,45,45]⟩:ByteArray),(⟨#[]⟩:ByteArray),(⟨#[85]⟩:ByteArray)⟩:S165),(⟨(⟨#[117,45,45]⟩:ByteArray),(⟨#[]⟩:ByteArray),(⟨#[85]⟩:ByteArray)⟩:S165),(⟨(⟨#[116,45,45]⟩:ByteArray),(⟨#[]⟩:ByteArray),(⟨#[84]⟩:ByteArray)⟩:S165),(⟨(⟨#[115,45,45]⟩:ByteArray),(⟨#[]⟩:ByteArray),(⟨#[83]⟩:ByteArray)⟩:S165),(⟨(⟨#[110,45,45]⟩:ByteArray),(⟨#[]⟩:ByteArray),(⟨#[73]⟩:ByteArray)⟩:S165),(⟨(⟨#[109,45,45]⟩:ByteArray),(⟨#[]⟩:ByteArray),(⟨#[77]⟩:ByteArray)⟩:S165),(⟨(⟨#[116,45,45]⟩:ByteArray),(⟨#[]⟩:ByteArray),(⟨#[84]⟩:ByteArray)⟩:S165),(⟨(⟨#[45,45,45]⟩:ByteArray),(⟨#[]⟩:ByteArray),(⟨#[84]⟩:ByteArray)⟩:S165),(⟨(⟨#[45,45,45]⟩:ByteArray),(⟨#[]⟩:ByteArray),(⟨#[83]⟩:ByteArray)⟩:S165),(⟨(⟨#[45,45,45]⟩:ByteArray),(⟨#[84]⟩:ByteArray),(⟨#[83]⟩:ByteArray)⟩:S165),(⟨(⟨#[45,45,45]⟩:ByteArray),(⟨#[84]⟩:ByteArray),(⟨#[73]⟩:ByteArray)⟩:S165),(⟨(⟨#[117,116,45]⟩:ByteArray),(⟨#[83]⟩:ByteArray),(⟨#[85]⟩:ByteArray)⟩:S165),(⟨(⟨#[117,45,45]⟩:ByteArray),(⟨#[83]⟩:ByteArray),(⟨#[85]⟩:ByteArray)⟩:S165),(⟨(⟨#[117,45,45]⟩:ByteArray),(⟨#[83]⟩:ByteArray),(⟨#[85]⟩:ByteArray)⟩:S165),(⟨(⟨#[45,45,45]⟩:ByteArray),(⟨#[83]⟩:ByteArray),(⟨#[78]⟩:ByteArray)⟩:S165),(⟨(⟨#[117,116,99]⟩:ByteArray),(⟨#[73]⟩:ByteArray),(⟨#[85]⟩:ByteArray)⟩:S165),(⟨(⟨#[117,116,45]⟩:ByteArray),(⟨#[77]⟩:ByteArray),(⟨#[85]⟩:ByteArray)⟩:S165),(⟨(⟨#[45,116,99]⟩:ByteArray),(⟨#[73]⟩:ByteArray),(⟨#[78]⟩:ByteArray)⟩:S165),(⟨(⟨#[45,116,45]⟩:ByteArray),(⟨#[77]⟩:ByteArray),(⟨#[78]⟩:ByteArray)⟩:S165),(⟨(⟨#[45,116,99]⟩:ByteArray),(⟨#[80,73]⟩:ByteArray),(⟨#[78]⟩:ByteArray)⟩:S165),(⟨(⟨#[45,116,45]⟩:ByteArray),(⟨#[80,77]⟩:ByteArray),(⟨#[78]⟩:ByteArray)⟩:S165),(⟨(⟨#[45,116,45]⟩:ByteArray),(⟨#[80]⟩:ByteArray),(⟨#[78]⟩:ByteArray)⟩:S165),(⟨(⟨#[45,116,45]⟩:ByteArray),(⟨#[]⟩:ByteArray),(⟨#[78]⟩:ByteArray)⟩:S165),(⟨(⟨#[117,45,45]⟩:ByteArray),(⟨#[84,83]⟩:ByteArray),(⟨#[85]⟩:ByteArray)⟩:S165),(⟨(⟨#[117,45,99]⟩:ByteArray),(⟨#[73,73]⟩:ByteArray),(⟨#[85]⟩:ByteArray)⟩:S165),(⟨(⟨#[117,45,45]⟩:ByteArray),(⟨#[73,77]⟩:ByteArray),(⟨#[85]⟩:ByteArray)⟩:S165),(⟨(⟨#[45,45,45]⟩:ByteArray),(⟨#[66,66]⟩:ByteArray),(⟨#[61]⟩:ByteArray)⟩:S165),(⟨(⟨#[45,45,45]⟩:ByteArray),(⟨#[66,66]⟩:ByteArray),(⟨#[61]⟩:ByteArray)⟩:S165),(⟨(⟨#[45,45,45]⟩:ByteArray),(⟨#[66,66]⟩:ByteArray),(⟨#[61]⟩:ByteArray)⟩:S165),(⟨(⟨#[45,45,45]⟩:ByteArray),(⟨#[66]⟩:ByteArray),(⟨#[61]⟩:ByteArray)⟩:S165),(⟨(⟨#[108,45,45]⟩:ByteArray),(⟨#[66]⟩:ByteArray),(⟨#[]⟩:ByteArray)⟩:S165),(⟨(⟨#[108,45,45]⟩:ByteArray),(⟨#[]⟩:ByteArray),(⟨#[76]⟩:ByteArray)⟩:S165),(⟨(⟨#[106,45,45]⟩:ByteArray),(⟨#[66]⟩:ByteArray),(⟨#[61]⟩:ByteArray)⟩:S165),(⟨(⟨#[106,45,45]⟩:ByteArray),(⟨#[66]⟩:ByteArray),(⟨#[61]⟩:ByteArray)⟩:S165),(⟨(⟨#[45,45,45]⟩:ByteArray),(⟨#[42]⟩:ByteArray),(⟨#[]⟩:ByteArray)⟩:S165),(⟨(⟨#[45,45,45]⟩:ByteArray),(⟨#[78]⟩:ByteArray),(⟨#[]⟩:ByteArray)⟩:S165)]:List (S165)))
theorem audit_rows.calls  (r:List (S165)) (w:World) (h:audit_rows.f =some r) :
 Calls Try.prog 54 #[] w fun e w'=>∃ v0_:Value,e=.returned (v0_)∧Kd.R k165 165 w' w.heap.size (fun _=>True) v0_ r∧Below w.heap.size w w':=by
 have hu165:=Try.underlying165
 have HB:=Aside0.mk (Below.refl w.heap.size w)
 have H:(some (([(⟨(⟨#[]⟩:ByteArray),(⟨#[]⟩:ByteArray),(⟨#[]⟩:ByteArray)⟩:S165),(⟨(⟨#[117,45,45]⟩:ByteArray),(⟨#[]⟩:ByteArray),(⟨#[85]⟩:ByteArray)⟩:S165),(⟨(⟨#[117,45,45]⟩:ByteArray),(⟨#[]⟩:ByteArray),(⟨#[85]⟩:ByteArray)⟩:S165),(⟨(⟨#[116,45,45]⟩:ByteArray),(⟨#[]⟩:ByteArray),(⟨#[84]⟩:ByteArray)⟩:S165),(⟨(⟨#[115,45,45]⟩:ByteArray),(⟨#[]⟩:ByteArray),(⟨#[83]⟩:ByteArray)⟩:S165),(⟨(⟨#[110,45,45]⟩:ByteArray),(⟨#[]⟩:ByteArray),(⟨#[73]⟩:ByteArray)⟩:S165),(⟨(⟨#[109,45,45]⟩:ByteArray),(⟨#[]⟩:ByteArray),(⟨#[77]⟩:ByteArray)⟩:S165),(⟨(⟨#[116,45,45]⟩:ByteArray),(⟨#[]⟩:ByteArray),(⟨#[84]⟩:ByteArray)⟩:S165),(⟨(⟨#[45,45,45]⟩:ByteArray),(⟨#[]⟩:ByteArray),(⟨#[84]⟩:ByteArray)⟩:S165),(⟨(⟨#[45,45,45]⟩:ByteArray),(⟨#[]⟩:ByteArray),(⟨#[83]⟩:ByteArray)⟩:S165),(⟨(⟨#[45,45,45]⟩:ByteArray),(⟨#[84]⟩:ByteArray),(⟨#[83]⟩:ByteArray)⟩:S165),(⟨(⟨#[45,45,45]⟩:ByteArray),(⟨#[84]⟩:ByteArray),(⟨#[73]⟩:ByteArray)⟩:S165),(⟨(⟨#[117,116,45]⟩:ByteArray),(⟨#[83]⟩:ByteArray),(⟨#[85]⟩:ByteArray)⟩:S165),(⟨(⟨#[117,45,45]⟩:ByteArray),(⟨#[83]⟩:ByteArray),(⟨#[85]⟩:ByteArray)⟩:S165),(⟨(⟨#[117,45,45]⟩:ByteArray),(⟨#[83]⟩:ByteArray),(⟨#[85]⟩:ByteArray)⟩:S165),(⟨(⟨#[45,45,45]⟩:ByteArray),(⟨#[83]⟩:ByteArray),(⟨#[78]⟩:ByteArray)⟩:S165),(⟨(⟨#[117,116,99]⟩:ByteArray),(⟨#[73]⟩:ByteArray),(⟨#[85]⟩:ByteArray)⟩:S165),(⟨(⟨#[117,116,45]⟩:ByteArray),(⟨#[77]⟩:ByteArray),(⟨#[85]⟩:ByteArray)⟩:S165),(⟨(⟨#[45,116,99]⟩:ByteArray),(⟨#[73]⟩:ByteArray),(⟨#[78]⟩:ByteArray)⟩:S165),(⟨(⟨#[45,116,45]⟩:ByteArray),(⟨#[77]⟩:ByteArray),(⟨#[78]⟩:ByteArray)⟩:S165),(⟨(⟨#[45,116,99]⟩:ByteArray),(⟨#[80,73]⟩:ByteArray),(⟨#[78]⟩:ByteArray)⟩:S165),(⟨(⟨#[45,116,45]⟩:ByteArray),(⟨#[80,77]⟩:ByteArray),(⟨#[78]⟩:ByteArray)⟩:S165),(⟨(⟨#[45,116,45]⟩:ByteArray),(⟨#[80]⟩:ByteArray),(⟨#[78]⟩:ByteArray)⟩:S165),(⟨(⟨#[45,116,45]⟩:ByteArray),(⟨#[]⟩:ByteArray),(⟨#[78]⟩:ByteArray)⟩:S165),(⟨(⟨#[117,45,45]⟩:ByteArray),(⟨#[84,83]⟩:ByteArray),(⟨#[85]⟩:ByteArray)⟩:S165),(⟨(⟨#[117,45,99]⟩:ByteArray),(⟨#[73,73]⟩:ByteArray),(⟨#[85]⟩:ByteArray)⟩:S165),(⟨(⟨#[117,45,45]⟩:ByteArray),(⟨#[73,77]⟩:ByteArray),(⟨#[85]⟩:ByteArray)⟩:S165),(⟨(⟨#[45,45,45]⟩:ByteArray),(⟨#[66,66]⟩:ByteArray),(⟨#[61]⟩:ByteArray)⟩:S165),(⟨(⟨#[45,45,45]⟩:ByteArray),(⟨#[66,66]⟩:ByteArray),(⟨#[61]⟩:ByteArray)⟩:S165),(⟨(⟨#[45,45,45]⟩:ByteArray),(⟨#[66,66]⟩:ByteArray),(⟨#[61]⟩:ByteArray)⟩:S165),(⟨(⟨#[45,45,45]⟩:ByteArray),(⟨#[66]⟩:ByteArray),(⟨#[61]⟩:ByteArray)⟩:S165),(⟨(⟨#[108,45,45]⟩:ByteArray),(⟨#[66]⟩:ByteArray),(⟨#[]⟩:ByteArray)⟩:S165),(⟨(⟨#[108,45,45]⟩:ByteArray),(⟨#[]⟩:ByteArray),(⟨#[76]⟩:ByteArray)⟩:S165),(⟨(⟨#[106,45,45]⟩:ByteArray),(⟨#[66]⟩:ByteArray),(⟨#[61]⟩:ByteArray)⟩:S165),(⟨(⟨#[106,45,45]⟩:ByteArray),(⟨#[66]⟩:ByteArray),(⟨#[61]⟩:ByteArray)⟩:S165),(⟨(⟨#[45,45,45]⟩:ByteArray),(⟨#[42]⟩:ByteArray),(⟨#[]⟩:ByteArray)⟩:S165),(⟨(⟨#[45,45,45]⟩:ByteArray),(⟨#[78]⟩:ByteArray),(⟨#[]⟩:ByteArray)⟩:S165)]:List (S165))))=some r:=h
 clear h
 obtain ⟨y101,hy101⟩:∃ y_:List (S165),y_=(([(⟨(⟨#[]⟩:ByteArray),(⟨#[]⟩:ByteArray),(⟨#[]⟩:ByteArray)⟩:S165),(⟨(⟨#[117,45,45]⟩:ByteArray),(⟨#[]⟩:ByteArray),(⟨#[85]⟩:ByteArray)⟩:S165),(⟨(⟨#[117,45,45]⟩:ByteArray),(⟨#[]⟩:ByteArray),(⟨#[85]⟩:ByteArray)⟩:S165),(⟨(⟨#[116,45,45]⟩:ByteArray),(⟨#[]⟩:ByteArray),(⟨#[84]⟩:ByteArray)⟩:S165),(⟨(⟨#[115,45,45]⟩:ByteArray),(⟨#[]⟩:ByteArray),(⟨#[83]⟩:ByteArray)⟩:S165),(⟨(⟨#[110,45,45]⟩:ByteArray),(⟨#[]⟩:ByteArray),(⟨#[73]⟩:ByteArray)⟩:S165),(⟨(⟨#[109,45,45]⟩:ByteArray),(⟨#[]⟩:ByteArray),(⟨#[77]⟩:ByteArray)⟩:S165),(⟨(⟨#[116,45,45]⟩:ByteArray),(⟨#[]⟩:ByteArray),(⟨#[84]⟩:ByteArray)⟩:S165),(⟨(⟨#[45,45,45]⟩:ByteArray),(⟨#[]⟩:ByteArray),(⟨#[84]⟩:ByteArray)⟩:S165),(⟨(⟨#[45,45,45]⟩:ByteArray),(⟨#[]⟩:ByteArray),(⟨#[83]⟩:ByteArray)⟩:S165),(⟨(⟨#[45,45,45]⟩:ByteArray),(⟨#[84]⟩:ByteArray),(⟨#[83]⟩:ByteArray)⟩:S165),(⟨(⟨#[45,45,45]⟩:ByteArray),(⟨#[84]⟩:ByteArray),(⟨#[73]⟩:ByteArray)⟩:S165),(⟨(⟨#[117,116,45]⟩:ByteArray),(⟨#[83]⟩:ByteArray),(⟨#[85]⟩:ByteArray)⟩:S165),(⟨(⟨#[117,45,45]⟩:ByteArray),(⟨#[83]⟩:ByteArray),(⟨#[85]⟩:ByteArray)⟩:S165),(⟨(⟨#[117,45,45]⟩:ByteArray),(⟨#[83]⟩:ByteArray),(⟨#[85]⟩:ByteArray)⟩:S165),(⟨(⟨#[45,45,45]⟩:ByteArray),(⟨#[83]⟩:ByteArray),(⟨#[78]⟩:ByteArray)⟩:S165),(⟨(⟨#[117,116,99]⟩:ByteArray),(⟨#[73]⟩:ByteArray),(⟨#[85]⟩:ByteArray)⟩:S165),(⟨(⟨#[117,116,45]⟩:ByteArray),(⟨#[77]⟩:ByteArray),(⟨#[85]⟩:ByteArray)⟩:S165),(⟨(⟨#[45,116,99]⟩:ByteArray),(⟨#[73]⟩:ByteArray),(⟨#[78]⟩:ByteArray)⟩:S165),(⟨(⟨#[45,116,45]⟩:ByteArray),(⟨#[77]⟩:ByteArray),(⟨#[78]⟩:ByteArray)⟩:S165),(⟨(⟨#[45,116,99]⟩:ByteArray),(⟨#[80,73]⟩:ByteArray),(⟨#[78]⟩:ByteArray)⟩:S165),(⟨(⟨#[45,116,45]⟩:ByteArray),(⟨#[80,77]⟩:ByteArray),(⟨#[78]⟩:ByteArray)⟩:S165),(⟨(⟨#[45,116,45]⟩:ByteArray),(⟨#[80]⟩:ByteArray),(⟨#[78]⟩:ByteArray)⟩:S165),(⟨(⟨#[45,116,45]⟩:ByteArray),(⟨#[]⟩:ByteArray),(⟨#[78]⟩:ByteArray)⟩:S165),(⟨(⟨#[117,45,45]⟩:ByteArray),(⟨#[84,83]⟩:ByteArray),(⟨#[85]⟩:ByteArray)⟩:S165),(⟨(⟨#[117,45,99]⟩:ByteArray),(⟨#[73,73]⟩:ByteArray),(⟨#[85]⟩:ByteArray)⟩:S165),(⟨(⟨#[117,45,45]⟩:ByteArray),(⟨#[73,77]⟩:ByteArray),(⟨#[85]⟩:ByteArray)⟩:S165),(⟨(⟨#[45,45,45]⟩:ByteArray),(⟨#[66,66]⟩:ByteArray),(⟨#[61]⟩:ByteArray)⟩:S165),(⟨(⟨#[45,45,45]⟩:ByteArray),(⟨#[66,66]⟩:ByteArray),(⟨#[61]⟩:ByteArray)⟩:S165),(⟨(⟨#[45,45,45]⟩:ByteArray),(⟨#[66,66]⟩:ByteArray),(⟨#[61]⟩:ByteArray)⟩:S165),(⟨(⟨#[45,45,45]⟩:ByteArray),(⟨#[66]⟩:ByteArray),(⟨#[61]⟩:ByteArray)⟩:S165),(⟨(⟨#[108,45,45]⟩:ByteArray),(⟨#[66]⟩:ByteArray),(⟨#[]⟩:ByteArray)⟩:S165),(⟨(⟨#[108,45,45]⟩:ByteArray),(⟨#[]⟩:ByteArray),(⟨#[76]⟩:ByteArray)⟩:S165),(⟨(⟨#[106,45,45]⟩:ByteArray),(⟨#[66]⟩:ByteArray),(⟨#[61]⟩:ByteArray)⟩:S165),(⟨(⟨#[106,45,45]⟩:ByteArray),(⟨#[66]⟩:ByteArray),(⟨#[61]⟩:ByteArray)⟩:S165),(⟨(⟨#[45,45,45]⟩:ByteArray),(⟨#[42]⟩:ByteArray),(⟨#[]⟩:ByteArray)⟩:S165),(⟨(⟨#[45,45,45]⟩:ByteArray),(⟨#[78]⟩:ByteArray),(⟨#[]⟩:ByteArray)⟩:S165)]:List (S165))):=⟨_,rfl⟩
 replace H:(some y101)=some r:=by (rw [hy101];with_reducible exact H)
 have Ny101:=Aside0.mk hy101
 clear hy101
 obtain rfl:=Option.some.inj H
 go_enter Try.func54,Try.ntmps54
 go_wp2_with (((with_reducible refine aZ2 (N:=38) rfl ?_);refine Kd.R_lit k165 _ 165 ?hg (N:=38) ?hd (xs:=([(⟨(⟨#[]⟩:ByteArray),(⟨#[]⟩:ByteArray),(⟨#[]⟩:ByteArray)⟩:S165),(⟨(⟨#[117,45,45]⟩:ByteArray),(⟨#[]⟩:ByteArray),(⟨#[85]⟩:ByteArray)⟩:S165),(⟨(⟨#[117,45,45]⟩:ByteArray),(⟨#[]⟩:ByteArray),(⟨#[85]⟩:ByteArray)⟩:S165),(⟨(⟨#[116,45,45]⟩:ByteArray),(⟨#[]⟩:ByteArray),(⟨#[84]⟩:ByteArray)⟩:S165),(⟨(⟨#[115,45,45]⟩:ByteArray),(⟨#[]⟩:ByteArray),(⟨#[83]⟩:ByteArray)⟩:S165),(⟨(⟨#[110,45,45]⟩:ByteArray),(⟨#[]⟩:ByteArray),(⟨#[73]⟩:ByteArray)⟩:S165),(⟨(⟨#[109,45,45]⟩:ByteArray),(⟨#[]⟩:ByteArray),(⟨#[77]⟩:ByteArray)⟩:S165),(⟨(⟨#[116,45,45]⟩:ByteArray),(⟨#[]⟩:ByteArray),(⟨#[84]⟩:ByteArray)⟩:S165),(⟨(⟨#[45,45,45]⟩:ByteArray),(⟨#[]⟩:ByteArray),(⟨#[84]⟩:ByteArray)⟩:S165),(⟨(⟨#[45,45,45]⟩:ByteArray),(⟨#[]⟩:ByteArray),(⟨#[83]⟩:ByteArray)⟩:S165),(⟨(⟨#[45,45,45]⟩:ByteArray),(⟨#[84]⟩:ByteArray),(⟨#[83]⟩:ByteArray)⟩:S165),(⟨(⟨#[45,45,45]⟩:ByteArray),(⟨#[84]⟩:ByteArray),(⟨#[73]⟩:ByteArray)⟩:S165),(⟨(⟨#[117,116,45]⟩:ByteArray),(⟨#[83]⟩:ByteArray),(⟨#[85]⟩:ByteArray)⟩:S165),(⟨(⟨#[117,45,45]⟩:ByteArray),(⟨#[83]⟩:ByteArray),(⟨#[85]⟩:ByteArray)⟩:S165),(⟨(⟨#[117,45,45]⟩:ByteArray),(⟨#[83]⟩:ByteArray),(⟨#[85]⟩:ByteArray)⟩:S165),(⟨(⟨#[45,45,45]⟩:ByteArray),(⟨#[83]⟩:ByteArray),(⟨#[78]⟩:ByteArray)⟩:S165),(⟨(⟨#[117,116,99]⟩:ByteArray),(⟨#[73]⟩:ByteArray),(⟨#[85]⟩:ByteArray)⟩:S165),(⟨(⟨#[117,116,45]⟩:ByteArray),(⟨#[77]⟩:ByteArray),(⟨#[85]⟩:ByteArray)⟩:S165),(⟨(⟨#[45,116,99]⟩:ByteArray),(⟨#[73]⟩:ByteArray),(⟨#[78]⟩:ByteArray)⟩:S165),(⟨(⟨#[45,116,45]⟩:ByteArray),(⟨#[77]⟩:ByteArray),(⟨#[78]⟩:ByteArray)⟩:S165),(⟨(⟨#[45,116,99]⟩:ByteArray),(⟨#[80,73]⟩:ByteArray),(⟨#[78]⟩:ByteArray)⟩:S165),(⟨(⟨#[45,116,45]⟩:ByteArray),(⟨#[80,77]⟩:ByteArray),(⟨#[78]⟩:ByteArray)⟩:S165),(⟨(⟨#[45,116,45]⟩:ByteArray),(⟨#[80]⟩:ByteArray),(⟨#[78]⟩:ByteArray)⟩:S165),(⟨(⟨#[45,116,45]⟩:ByteArray),(⟨#[]⟩:ByteArray),(⟨#[78]⟩:ByteArray)⟩:S165),(⟨(⟨#[117,45,45]⟩:ByteArray),(⟨#[84,83]⟩:ByteArray),(⟨#[85]⟩:ByteArray)⟩:S165),(⟨(⟨#[117,45,99]⟩:ByteArray),(⟨#[73,73]⟩:ByteArray),(⟨#[85]⟩:ByteArray)⟩:S165),(⟨(⟨#[117,45,45]⟩:ByteArray),(⟨#[73,77]⟩:ByteArray),(⟨#[85]⟩:ByteArray)⟩:S165),(⟨(⟨#[45,45,45]⟩:ByteArray),(⟨#[66,66]⟩:ByteArray),(⟨#[61]⟩:ByteArray)⟩:S165),(⟨(⟨#[45,45,45]⟩:ByteArray),(⟨#[66,66]⟩:ByteArray),(⟨#[61]⟩:ByteArray)⟩:S165),(⟨(⟨#[45,45,45]⟩:ByteArray),(⟨#[66,66]⟩:ByteArray),(⟨#[61]⟩:ByteArray)⟩:S165),(⟨(⟨#[45,45,45]⟩:ByteArray),(⟨#[66]⟩:ByteArray),(⟨#[61]⟩:ByteArray)⟩:S165),(⟨(⟨#[108,45,45]⟩:ByteArray),(⟨#[66]⟩:ByteArray),(⟨#[]⟩:ByteArray)⟩:S165),(⟨(⟨#[108,45,45]⟩:ByteArray),(⟨#[]⟩:ByteArray),(⟨#[76]⟩:ByteArray)⟩:S165),(⟨(⟨#[106,45,45]⟩:ByteArray),(⟨#[66]⟩:ByteArray),(⟨#[61]⟩:ByteArray)⟩:S165),(⟨(⟨#[106,45,45]⟩:ByteArray),(⟨#[66]⟩:ByteArray),(⟨#[61]⟩:ByteArray)⟩:S165),(⟨(⟨#[45,45,45]⟩:ByteArray),(⟨#[42]⟩:ByteArray),(⟨#[]⟩:ByteArray)⟩:S165),(⟨(⟨#[45,45,45]⟩:ByteArray),(⟨#[78]⟩:ByteArray),(⟨#[]⟩:ByteArray)⟩:S165)]:List (S165))) (inner:=[.string (⟨#[]⟩:ByteArray),.string (⟨#[]⟩:ByteArray),.string (⟨#[]⟩:ByteArray),.string (⟨#[117,45,45]⟩:ByteArray),.string (⟨#[]⟩:ByteArray),.string (⟨#[85]⟩:ByteArray),.string (⟨#[117,45,45]⟩:ByteArray),.string (⟨#[]⟩:ByteArray),.string (⟨#[85]⟩:ByteArray),.string (⟨#[116,45,45]⟩:ByteArray),.string (⟨#[]⟩:ByteArray),.string (⟨#[84]⟩:ByteArray),.string (⟨#[115,45,45]⟩:ByteArray),.string (⟨#[]⟩:ByteArray),.string (⟨#[83]⟩:ByteArray),.string (⟨#[110,45,45]⟩:ByteArray),.string (⟨#[]⟩:ByteArray),.string (⟨#[73]⟩:ByteArray),.string (⟨#[109,45,45]⟩:ByteArray),.string (⟨#[]⟩:ByteArray),.string (⟨#[77]⟩:ByteArray),.string (⟨#[116,45,45]⟩:ByteArray),.string (⟨#[]⟩:ByteArray),.string (⟨#[84]⟩:ByteArray),.string (⟨#[45,45,45]⟩:ByteArray),.string (⟨#[]⟩:ByteArray),.string (⟨#[84]⟩:ByteArray),.string (⟨#[45,45,45]⟩:ByteArray),.string (⟨#[]⟩:ByteArray),.string (⟨#[83]⟩:ByteArray),.string (⟨#[45,45,45]⟩:ByteArray),.string (⟨#[84]⟩:ByteArray),.string (⟨#[83]⟩:ByteArray),.string (⟨#[45,45,45]⟩:ByteArray),.string (⟨#[84]⟩:ByteArray),.string (⟨#[73]⟩:ByteArray),.string (⟨#[117,116,45]⟩:ByteArray),.string (⟨#[83]⟩:ByteArray),.string (⟨#[85]⟩:ByteArray),.string (⟨#[117,45,45]⟩:ByteArray),.string (⟨#[83]⟩:ByteArray),.string (⟨#[85]⟩:ByteArray),.string (⟨#[117,45,45]⟩:ByteArray),.string (⟨#[83]⟩:ByteArray),.string (⟨#[85]⟩:ByteArray),.string (⟨#[45,45,45]⟩:ByteArray),.string (⟨#[83]⟩:ByteArray),.string (⟨#[78]⟩:ByteArray),.string (⟨#[117,116,99]⟩:ByteArray),.string (⟨#[73]⟩:ByteArray),.string (⟨#[85]⟩:ByteArray),.string (⟨#[117,116,45]⟩:ByteArray),.string (⟨#[77]⟩:ByteArray),.string (⟨#[85]⟩:ByteArray),.string (⟨#[45,116,99]⟩:ByteArray),.string (⟨#[73]⟩:ByteArray),.string (⟨#[78]⟩:ByteArray),.string (⟨#[45,116,45]⟩:ByteArray),.string (⟨#[77]⟩:ByteArray),.string (⟨#[78]⟩:ByteArray),.string (⟨#[45,116,99]⟩:ByteArray),.string (⟨#[80,73]⟩:ByteArray),.string (⟨#[78]⟩:ByteArray),.string (⟨#[45,116,45]⟩:ByteArray),.string (⟨#[80,77]⟩:ByteArray),.string (⟨#[78]⟩:ByteArray),.string (⟨#[45,116,45]⟩:ByteArray),.string (⟨#[80]⟩:ByteArray),.string (⟨#[78]⟩:ByteArray),.string (⟨#[45,116,45]⟩:ByteArray),.string (⟨#[]⟩:ByteArray),.string (⟨#[78]⟩:ByteArray),.string (⟨#[117,45,45]⟩:ByteArray),.string (⟨#[84,83]⟩:ByteArray),.string (⟨#[85]⟩:ByteArray),.string (⟨#[117,45,99]⟩:ByteArray),.string (⟨#[73,73]⟩:ByteArray),.string (⟨#[85]⟩:ByteArray),.string (⟨#[117,45,45]⟩:ByteArray),.string (⟨#[73,77]⟩:ByteArray),.string (⟨#[85]⟩:ByteArray),.string (⟨#[45,45,45]⟩:ByteArray),.string (⟨#[66,66]⟩:ByteArray),.string (⟨#[61]⟩:ByteArray),.string (⟨#[45,45,45]⟩:ByteArray),.string (⟨#[66,66]⟩:ByteArray),.string (⟨#[61]⟩:ByteArray),.string (⟨#[45,45,45]⟩:ByteArray),.string (⟨#[66,66]⟩:ByteArray),.string (⟨#[61]⟩:ByteArray),.string (⟨#[45,45,45]⟩:ByteArray),.string (⟨#[66]⟩:ByteArray),.string (⟨#[61]⟩:ByteArray),.string (⟨#[108,45,45]⟩:ByteArray),.string (⟨#[66]⟩:ByteArray),.string (⟨#[]⟩:ByteArray),.string (⟨#[108,45,45]⟩:ByteArray),.string (⟨#[]⟩:ByteArray),.string (⟨#[76]⟩:ByteArray),.string (⟨#[106,45,45]⟩:ByteArray),.string (⟨#[66]⟩:ByteArray),.string (⟨#[61]⟩:ByteArray),.string (⟨#[106,45,45]⟩:ByteArray),.string (⟨#[66]⟩:ByteArray),.string (⟨#[61]⟩:ByteArray),.string (⟨#[45,45,45]⟩:ByteArray),.string (⟨#[42]⟩:ByteArray),.string (⟨#[]⟩:ByteArray),.string (⟨#[45,45,45]⟩:ByteArray),.string (⟨#[78]⟩:ByteArray),.string (⟨#[]⟩:ByteArray)]) (ok:=fun _=>True) (okp:=fun _=>True) ?hr ?hp (fun _ hk=>hk) trivial (Below.refl _ _) (Nat.le_refl _) (by simp) ?_;(case hd=>rfl);(case hg=>rfl);(case hr=>(go_simp;done));(case hp=>exact (Reps.c3 (show Kd.M k165 _ _ _ (⟨(⟨#[]⟩:ByteArray),(⟨#[]⟩:ByteArray),(⟨#[]⟩:ByteArray)⟩:S165) [.string (⟨#[]⟩:ByteArray),.string (⟨#[]⟩:ByteArray),.string (⟨#[]⟩:ByteArray)] from (aZp _ _ _ (⟨(⟨#[]⟩:ByteArray),(⟨#[]⟩:ByteArray),(⟨#[]⟩:ByteArray)⟩:S165) )) (Reps.c3 (show Kd.M k165 _ _ _ (⟨(⟨#[117,45,45]⟩:ByteArray),(⟨#[]⟩:ByteArray),(⟨#[85]⟩:ByteArray)⟩:S165) [.string (⟨#[117,45,45]⟩:ByteArray),.string (⟨#[]⟩:ByteArray),.string (⟨#[85]⟩:ByteArray)] from (aZp _ _ _ (⟨(⟨#[117,45,45]⟩:ByteArray),(⟨#[]⟩:ByteArray),(⟨#[85]⟩:ByteArray)⟩:S165) )) (Reps.c3 (show Kd.M k165 _ _ _ (⟨(⟨#[117,45,45]⟩:ByteArray),(⟨#[]⟩:ByteArray),(⟨#[85]⟩:ByteArray)⟩:S165) [.string (⟨#[117,45,45]⟩:ByteArray),.string (⟨#[]⟩:ByteArray),.string (⟨#[85]⟩:ByteArray)] from (aZp _ _ _ (⟨(⟨#[117,45,45]⟩:ByteArray),(⟨#[]⟩:ByteArray),(⟨#[85]⟩:ByteArray)⟩:S165) )) (Reps.c3 (show Kd.M k165 _ _ _ (⟨(⟨#[116,45,45]⟩:ByteArray),(⟨#[]⟩:ByteArray),(⟨#[84]⟩:ByteArray)⟩:S165) [.string (⟨#[116,45,45]⟩:ByteArray),.string (⟨#[]⟩:ByteArray),.string (⟨#[84]⟩:ByteArray)] from (aZp _ _ _ (⟨(⟨#[116,45,45]⟩:ByteArray),(⟨#[]⟩:ByteArray),(⟨#[84]⟩:ByteArray)⟩:S165) )) (Reps.c3 (show Kd.M k165 _ _ _ (⟨(⟨#[115,45,45]⟩:ByteArray),(⟨#[]⟩:ByteArray),(⟨#[83]⟩:ByteArray)⟩:S165) [.string (⟨#[115,45,45]⟩:ByteArray),.string (⟨#[]⟩:ByteArray),.string (⟨#[83]⟩:ByteArray)] from (aZp _ _ _ (⟨(⟨#[115,45,45]⟩:ByteArray),(⟨#[]⟩:ByteArray),(⟨#[83]⟩:ByteArray)⟩:S165) )) (Reps.c3 (show Kd.M k165 _ _ _ (⟨(⟨#[110,45,45]⟩:ByteArray),(⟨#[]⟩:ByteArray),(⟨#[73]⟩:ByteArray)⟩:S165) [.string (⟨#[110,45,45]⟩:ByteArray),.string (⟨#[]⟩:ByteArray),.string (⟨#[73]⟩:ByteArray)] from (aZp _ _ _ (⟨(⟨#[110,45,45]⟩:ByteArray),(⟨#[]⟩:ByteArray),(⟨#[73]⟩:ByteArray)⟩:S165) )) (Reps.c3 (show Kd.M k165 _ _ _ (⟨(⟨#[109,45,45]⟩:ByteArray),(⟨#[]⟩:ByteArray),(⟨#[77]⟩:ByteArray)⟩:S165) [.string (⟨#[109,45,45]⟩:ByteArray),.string (⟨#[]⟩:ByteArray),.string (⟨#[77]⟩:ByteArray)] from (aZp _ _ _ (⟨(⟨#[109,45,45]⟩:ByteArray),(⟨#[]⟩:ByteArray),(⟨#[77]⟩:ByteArray)⟩:S165) )) (Reps.c3 (show Kd.M k165 _ _ _ (⟨(⟨#[116,45,45]⟩:ByteArray),(⟨#[]⟩:ByteArray),(⟨#[84]⟩:ByteArray)⟩:S165) [.string (⟨#[116,45,45]⟩:ByteArray),.string (⟨#[]⟩:ByteArray),.string (⟨#[84]⟩:ByteArray)] from (aZp _ _ _ (⟨(⟨#[116,45,45]⟩:ByteArray),(⟨#[]⟩:ByteArray),(⟨#[84]⟩:ByteArray)⟩:S165) )) (Reps.c3 (show Kd.M k165 _ _ _ (⟨(⟨#[45,45,45]⟩:ByteArray),(⟨#[]⟩:ByteArray),(⟨#[84]⟩:ByteArray)⟩:S165) [.string (⟨#[45,45,45]⟩:ByteArray),.string (⟨#[]⟩:ByteArray),.string (⟨#[84]⟩:ByteArray)] from (aZp _ _ _ (⟨(⟨#[45,45,45]⟩:ByteArray),(⟨#[]⟩:ByteArray),(⟨#[84]⟩:ByteArray)⟩:S165) )) (Reps.c3 (show Kd.M k165 _ _ _ (⟨(⟨#[45,45,45]⟩:ByteArray),(⟨#[]⟩:ByteArray),(⟨#[83]⟩:ByteArray)⟩:S165) [.string (⟨#[45,45,45]⟩:ByteArray),.string (⟨#[]⟩:ByteArray),.string (⟨#[83]⟩:ByteArray)] from (aZp _ _ _ (⟨(⟨#[45,45,45]⟩:ByteArray),(⟨#[]⟩:ByteArray),(⟨#[83]⟩:ByteArray)⟩:S165) )) (Reps.c3 (show Kd.M k165 _ _ _ (⟨(⟨#[45,45,45]⟩:ByteArray),(⟨#[84]⟩:ByteArray),(⟨#[83]⟩:ByteArray)⟩:S165) [.string (⟨#[45,45,45]⟩:ByteArray),.string (⟨#[84]⟩:ByteArray),.string (⟨#[83]⟩:ByteArray)] from (aZp _ _ _ (⟨(⟨#[45,45,45]⟩:ByteArray),(⟨#[84]⟩:ByteArray),(⟨#[83]⟩:ByteArray)⟩:S165) )) (Reps.c3 (show Kd.M k165 _ _ _ (⟨(⟨#[45,45,45]⟩:ByteArray),(⟨#[84]⟩:ByteArray),(⟨#[73]⟩:ByteArray)⟩:S165) [.string (⟨#[45,45,45]⟩:ByteArray),.string (⟨#[84]⟩:ByteArray),.string (⟨#[73]⟩:ByteArray)] from (aZp _ _ _ (⟨(⟨#[45,45,45]⟩:ByteArray),(⟨#[84]⟩:ByteArray),(⟨#[73]⟩:ByteArray)⟩:S165) )) (Reps.c3 (show Kd.M k165 _ _ _ (⟨(⟨#[117,116,45]⟩:ByteArray),(⟨#[83]⟩:ByteArray),(⟨#[85]⟩:ByteArray)⟩:S165) [.string (⟨#[117,116,45]⟩:ByteArray),.string (⟨#[83]⟩:ByteArray),.string (⟨#[85]⟩:ByteArray)] from (aZp _ _ _ (⟨(⟨#[117,116,45]⟩:ByteArray),(⟨#[83]⟩:ByteArray),(⟨#[85]⟩:ByteArray)⟩:S165) )) (Reps.c3 (show Kd.M k165 _ _ _ (⟨(⟨#[117,45,45]⟩:ByteArray),(⟨#[83]⟩:ByteArray),(⟨#[85]⟩:ByteArray)⟩:S165) [.string (⟨#[117,45,45]⟩:ByteArray),.string (⟨#[83]⟩:ByteArray),.string (⟨#[85]⟩:ByteArray)] from (aZp _ _ _ (⟨(⟨#[117,45,45]⟩:ByteArray),(⟨#[83]⟩:ByteArray),(⟨#[85]⟩:ByteArray)⟩:S165) )) (Reps.c3 (show Kd.M k165 _ _ _ (⟨(⟨#[117,45,45]⟩:ByteArray),(⟨#[83]⟩:ByteArray),(⟨#[85]⟩:ByteArray)⟩:S165) [.string (⟨#[117,45,45]⟩:ByteArray),.string (⟨#[83]⟩:ByteArray),.string (⟨#[85]⟩:ByteArray)] from (aZp _ _ _ (⟨(⟨#[117,45,45]⟩:ByteArray),(⟨#[83]⟩:ByteArray),(⟨#[85]⟩:ByteArray)⟩:S165) )) (Reps.c3 (show Kd.M k165 _ _ _ (⟨(⟨#[45,45,45]⟩:ByteArray),(⟨#[83]⟩:ByteArray),(⟨#[78]⟩:ByteArray)⟩:S165) [.string (⟨#[45,45,45]⟩:ByteArray),.string (⟨#[83]⟩:ByteArray),.string (⟨#[78]⟩:ByteArray)] from (aZp _ _ _ (⟨(⟨#[45,45,45]⟩:ByteArray),(⟨#[83]⟩:ByteArray),(⟨#[78]⟩:ByteArray)⟩:S165) )) (Reps.c3 (show Kd.M k165 _ _ _ (⟨(⟨#[117,116,99]⟩:ByteArray),(⟨#[73]⟩:ByteArray),(⟨#[85]⟩:ByteArray)⟩:S165) [.string (⟨#[117,116,99]⟩:ByteArray),.string (⟨#[73]⟩:ByteArray),.string (⟨#[85]⟩:ByteArray)] from (aZp _ _ _ (⟨(⟨#[117,116,99]⟩:ByteArray),(⟨#[73]⟩:ByteArray),(⟨#[85]⟩:ByteArray)⟩:S165) )) (Reps.c3 (show Kd.M k165 _ _ _ (⟨(⟨#[117,116,45]⟩:ByteArray),(⟨#[77]⟩:ByteArray),(⟨#[85]⟩:ByteArray)⟩:S165) [.string (⟨#[117,116,45]⟩:ByteArray),.string (⟨#[77]⟩:ByteArray),.string (⟨#[85]⟩:ByteArray)] from (aZp _ _ _ (⟨(⟨#[117,116,45]⟩:ByteArray),(⟨#[77]⟩:ByteArray),(⟨#[85]⟩:ByteArray)⟩:S165) )) (Reps.c3 (show Kd.M k165 _ _ _ (⟨(⟨#[45,116,99]⟩:ByteArray),(⟨#[73]⟩:ByteArray),(⟨#[78]⟩:ByteArray)⟩:S165) [.string (⟨#[45,116,99]⟩:ByteArray),.string (⟨#[73]⟩:ByteArray),.string (⟨#[78]⟩:ByteArray)] from (aZp _ _ _ (⟨(⟨#[45,116,99]⟩:ByteArray),(⟨#[73]⟩:ByteArray),(⟨#[78]⟩:ByteArray)⟩:S165) )) (Reps.c3 (show Kd.M k165 _ _ _ (⟨(⟨#[45,116,45]⟩:ByteArray),(⟨#[77]⟩:ByteArray),(⟨#[78]⟩:ByteArray)⟩:S165) [.string (⟨#[45,116,45]⟩:ByteArray),.string (⟨#[77]⟩:ByteArray),.string (⟨#[78]⟩:ByteArray)] from (aZp _ _ _ (⟨(⟨#[45,116,45]⟩:ByteArray),(⟨#[77]⟩:ByteArray),(⟨#[78]⟩:ByteArray)⟩:S165) )) (Reps.c3 (show Kd.M k165 _ _ _ (⟨(⟨#[45,116,99]⟩:ByteArray),(⟨#[80,73]⟩:ByteArray),(⟨#[78]⟩:ByteArray)⟩:S165) [.string (⟨#[45,116,99]⟩:ByteArray),.string (⟨#[80,73]⟩:ByteArray),.string (⟨#[78]⟩:ByteArray)] from (aZp _ _ _ (⟨(⟨#[45,116,99]⟩:ByteArray),(⟨#[80,73]⟩:ByteArray),(⟨#[78]⟩:ByteArray)⟩:S165) )) (Reps.c3 (show Kd.M k165 _ _ _ (⟨(⟨#[45,116,45]⟩:ByteArray),(⟨#[80,77]⟩:ByteArray),(⟨#[78]⟩:ByteArray)⟩:S165) [.string (⟨#[45,116,45]⟩:ByteArray),.string (⟨#[80,77]⟩:ByteArray),.string (⟨#[78]⟩:ByteArray)] from (aZp _ _ _ (⟨(⟨#[45,116,45]⟩:ByteArray),(⟨#[80,77]⟩:ByteArray),(⟨#[78]⟩:ByteArray)⟩:S165) )) (Reps.c3 (show Kd.M k165 _ _ _ (⟨(⟨#[45,116,45]⟩:ByteArray),(⟨#[80]⟩:ByteArray),(⟨#[78]⟩:ByteArray)⟩:S165) [.string (⟨#[45,116,45]⟩:ByteArray),.string (⟨#[80]⟩:ByteArray),.string (⟨#[78]⟩:ByteArray)] from (aZp _ _ _ (⟨(⟨#[45,116,45]⟩:ByteArray),(⟨#[80]⟩:ByteArray),(⟨#[78]⟩:ByteArray)⟩:S165) )) (Reps.c3 (show Kd.M k165 _ _ _ (⟨(⟨#[45,116,45]⟩:ByteArray),(⟨#[]⟩:ByteArray),(⟨#[78]⟩:ByteArray)⟩:S165) [.string (⟨#[45,116,45]⟩:ByteArray),.string (⟨#[]⟩:ByteArray),.string (⟨#[78]⟩:ByteArray)] from (aZp _ _ _ (⟨(⟨#[45,116,45]⟩:ByteArray),(⟨#[]⟩:ByteArray),(⟨#[78]⟩:ByteArray)⟩:S165) )) (Reps.c3 (show Kd.M k165 _ _ _ (⟨(⟨#[117,45,45]⟩:ByteArray),(⟨#[84,83]⟩:ByteArray),(⟨#[85]⟩:ByteArray)⟩:S165) [.string (⟨#[117,45,45]⟩:ByteArray),.string (⟨#[84,83]⟩:ByteArray),.string (⟨#[85]⟩:ByteArray)] from (aZp _ _ _ (⟨(⟨#[117,45,45]⟩:ByteArray),(⟨#[84,83]⟩:ByteArray),(⟨#[85]⟩:ByteArray)⟩:S165) )) (Reps.c3 (show Kd.M k165 _ _ _ (⟨(⟨#[117,45,99]⟩:ByteArray),(⟨#[73,73]⟩:ByteArray),(⟨#[85]⟩:ByteArray)⟩:S165) [.string (⟨#[117,45,99]⟩:ByteArray),.string (⟨#[73,73]⟩:ByteArray),.string (⟨#[85]⟩:ByteArray)] from (aZp _ _ _ (⟨(⟨#[117,45,99]⟩:ByteArray),(⟨#[73,73]⟩:ByteArray),(⟨#[85]⟩:ByteArray)⟩:S165) )) (Reps.c3 (show Kd.M k165 _ _ _ (⟨(⟨#[117,45,45]⟩:ByteArray),(⟨#[73,77]⟩:ByteArray),(⟨#[85]⟩:ByteArray)⟩:S165) [.string (⟨#[117,45,45]⟩:ByteArray),.string (⟨#[73,77]⟩:ByteArray),.string (⟨#[85]⟩:ByteArray)] from (aZp _ _ _ (⟨(⟨#[117,45,45]⟩:ByteArray),(⟨#[73,77]⟩:ByteArray),(⟨#[85]⟩:ByteArray)⟩:S165) )) (Reps.c3 (show Kd.M k165 _ _ _ (⟨(⟨#[45,45,45]⟩:ByteArray),(⟨#[66,66]⟩:ByteArray),(⟨#[61]⟩:ByteArray)⟩:S165) [.string (⟨#[45,45,45]⟩:ByteArray),.string (⟨#[66,66]⟩:ByteArray),.string (⟨#[61]⟩:ByteArray)] from (aZp _ _ _ (⟨(⟨#[45,45,45]⟩:ByteArray),(⟨#[66,66]⟩:ByteArray),(⟨#[61]⟩:ByteArray)⟩:S165) )) (Reps.c3 (show Kd.M k165 _ _ _ (⟨(⟨#[45,45,45]⟩:ByteArray),(⟨#[66,66]⟩:ByteArray),(⟨#[61]⟩:ByteArray)⟩:S165) [.string (⟨#[45,45,45]⟩:ByteArray),.string (⟨#[66,66]⟩:ByteArray),.string (⟨#[61]⟩:ByteArray)] from (aZp _ _ _ (⟨(⟨#[45,45,45]⟩:ByteArray),(⟨#[66,66]⟩:ByteArray),(⟨#[61]⟩:ByteArray)⟩:S165) )) (Reps.c3 (show Kd.M k165 _ _ _ (⟨(⟨#[45,45,45]⟩:ByteArray),(⟨#[66,66]⟩:ByteArray),(⟨#[61]⟩:ByteArray)⟩:S165) [.string (⟨#[45,45,45]⟩:ByteArray),.string (⟨#[66,66]⟩:ByteArray),.string (⟨#[61]⟩:ByteArray)] from (aZp _ _ _ (⟨(⟨#[45,45,45]⟩:ByteArray),(⟨#[66,66]⟩:ByteArray),(⟨#[61]⟩:ByteArray)⟩:S165) )) (Reps.c3 (show Kd.M k165 _ _ _ (⟨(⟨#[45,45,45]⟩:ByteArray),(⟨#[66]⟩:ByteArray),(⟨#[61]⟩:ByteArray)⟩:S165) [.string (⟨#[45,45,45]⟩:ByteArray),.string (⟨#[66]⟩:ByteArray),.string (⟨#[61]⟩:ByteArray)] from (aZp _ _ _ (⟨(⟨#[45,45,45]⟩:ByteArray),(⟨#[66]⟩:ByteArray),(⟨#[61]⟩:ByteArray)⟩:S165) )) (Reps.c3 (show Kd.M k165 _ _ _ (⟨(⟨#[108,45,45]⟩:ByteArray),(⟨#[66]⟩:ByteArray),(⟨#[]⟩:ByteArray)⟩:S165) [.string (⟨#[108,45,45]⟩:ByteArray),.string (⟨#[66]⟩:ByteArray),.string (⟨#[]⟩:ByteArray)] from (aZp _ _ _ (⟨(⟨#[108,45,45]⟩:ByteArray),(⟨#[66]⟩:ByteArray),(⟨#[]⟩:ByteArray)⟩:S165) )) (Reps.c3 (show Kd.M k165 _ _ _ (⟨(⟨#[108,45,45]⟩:ByteArray),(⟨#[]⟩:ByteArray),(⟨#[76]⟩:ByteArray)⟩:S165) [.string (⟨#[108,45,45]⟩:ByteArray),.string (⟨#[]⟩:ByteArray),.string (⟨#[76]⟩:ByteArray)] from (aZp _ _ _ (⟨(⟨#[108,45,45]⟩:ByteArray),(⟨#[]⟩:ByteArray),(⟨#[76]⟩:ByteArray)⟩:S165) )) (Reps.c3 (show Kd.M k165 _ _ _ (⟨(⟨#[106,45,45]⟩:ByteArray),(⟨#[66]⟩:ByteArray),(⟨#[61]⟩:ByteArray)⟩:S165) [.string (⟨#[106,45,45]⟩:ByteArray),.string (⟨#[66]⟩:ByteArray),.string (⟨#[61]⟩:ByteArray)] from (aZp _ _ _ (⟨(⟨#[106,45,45]⟩:ByteArray),(⟨#[66]⟩:ByteArray),(⟨#[61]⟩:ByteArray)⟩:S165) )) (Reps.c3 (show Kd.M k165 _ _ _ (⟨(⟨#[106,45,45]⟩:ByteArray),(⟨#[66]⟩:ByteArray),(⟨#[61]⟩:ByteArray)⟩:S165) [.string (⟨#[106,45,45]⟩:ByteArray),.string (⟨#[66]⟩:ByteArray),.string (⟨#[61]⟩:ByteArray)] from (aZp _ _ _ (⟨(⟨#[106,45,45]⟩:ByteArray),(⟨#[66]⟩:ByteArray),(⟨#[61]⟩:ByteArray)⟩:S165) )) (Reps.c3 (show Kd.M k165 _ _ _ (⟨(⟨#[45,45,45]⟩:ByteArray),(⟨#[42]⟩:ByteArray),(⟨#[]⟩:ByteArray)⟩:S165) [.string (⟨#[45,45,45]⟩:ByteArray),.string (⟨#[42]⟩:ByteArray),.string (⟨#[]⟩:ByteArray)] from (aZp _ _ _ (⟨(⟨#[45,45,45]⟩:ByteArray),(⟨#[42]⟩:ByteArray),(⟨#[]⟩:ByteArray)⟩:S165) )) (Reps.c3 (show Kd.M k165 _ _ _ (⟨(⟨#[45,45,45]⟩:ByteArray),(⟨#[78]⟩:ByteArray),(⟨#[]⟩:ByteArray)⟩:S165) [.string (⟨#[45,45,45]⟩:ByteArray),.string (⟨#[78]⟩:ByteArray),.string (⟨#[]⟩:ByteArray)] from (aZp _ _ _ (⟨(⟨#[45,45,45]⟩:ByteArray),(⟨#[78]⟩:ByteArray),(⟨#[]⟩:ByteArray)⟩:S165) )) (Reps.none _ _)))))))))))))))))))))))))))))))))))))));intro v102 w1 ho2 hb hg_ hnew_;clear hg_ hnew_;(rw [←Ny101.out] at ho2);have n0_:=Aside0.mk (Kd.R_lower ho2 (aZS (by repeat ((with_reducible exact HB.out)))));have n1_:=Aside0.mk (aZ8 (by repeat ((with_reducible exact HB.out))) hb);clear HB;have HO103:=n0_;have HB:=n1_;clear n0_ n1_;clear hb ho2))
 go_ret
 exact ⟨_,by rfl,by (with_reducible repeat (fail));exact HO103.out,by repeat ((with_reducible exact HB.out))⟩
def api_Cell_105.l0:Nat→List Int→List Int→Int→Int→Option (Bool)
  | 0,_,_,_,_=>none
  | k+1,x0,x1,x12,x13=>if x13<x12 then (if 0≤x13 then (if x13<(x0.length:Int) then (if x13<(x1.length:Int) then (if (rd x0 x13)=(rd x1 x13) then (api_Cell_105.l0 k x0 x1 x12 (wrap64 (x13+1))) else (some false)) else (none)) else (none)) else (none)) else (some true)
def api_Cell_105.f (k:Nat) (l0:List Int) (l1:List Int):Option (Bool):=if (l0.length:Int)=(l1.length:Int) then (api_Cell_105.l0 k l0 l1 (l0.length:Int) 0) else (some false)
theorem api_Cell_105.calls (k:Nat) (A0:Option Addr) (c0:Nat) (l0:List Int) (A1:Option Addr) (c1:Nat) (l1:List Int) (r:Bool) (w:World) (hr0:Kd.C (Kd.int .i64) w A0 l0.length l0) (hc0:l0.length≤c0) (hr1:Kd.C (Kd.int .i64) w A1 l1.length l1) (hc1:l1.length≤c1) (h:api_Cell_105.f k l0 l1=some r) :
 Calls Try.prog 105 #[.slice A0 l0.length c0,.slice A1 l1.length c1] w fun e w'=>e=.returned (.bool r)∧Drawn0 w w':=by
 have HR0:=Aside0.mk hr0
 have HC0:=Aside0.mk hc0
 clear hr0 hc0
 have HR1:=Aside0.mk hr1
 have HC1:=Aside0.mk hc1
 clear hr1 hc1
 have H:(if (l0.length:Int)=(l1.length:Int) then (api_Cell_105.l0 k l0 l1 (l0.length:Int) 0) else (some false))=some r:=h
 clear h
 by_cases c3:(l0.length:Int)=(l1.length:Int)
 ·
  rw [if_pos c3] at H
  have c3b0:((l0.length:Int) == (l1.length:Int))=true:=beq_iff_eq.mpr c3
  have c3b1:((l0.length:Int) != (l1.length:Int))=false:=bne_eq_false_iff_eq.mpr c3
  have c3b2:(l0.length == l1.length)=true:=by (simp at c3 ⊢;omega)
  clear c3
  have H':=Aside0.mk H
  clear H
  go_enter Try.func105,Try.ntmps105
  go_wp2
  repeat (go_quiet (fail);try go_wp2)
  go_loopg [13] k (fun kq v13 w'=>∃ (x13_1:Int),v13=.int .i64 x13_1∧Aside0 (api_Cell_105.l0 kq l0 l1 (l0.length:Int) x13_1=some r)∧Aside0 (kq≤k)∧Drawn0 w w')
  case atStart=>exact ⟨(0),(by rfl),H',⟨Nat.le_refl _⟩,by repeat (exact Drawn0.refl _)⟩
  case round =>
   clear H'
   try clear c3b0;try clear c3b1;try clear c3b2
   obtain ⟨x13_1,rfl,HA,HK1,⟨m1,rfl⟩⟩:=hrel
   cases gk with
   | zero=>exact absurd HA.out (by simp [api_Cell_105.l0])
   | succ k1 =>
    have H:=HA.out
    clear HA
    simp only [api_Cell_105.l0] at H
    by_cases c4:x13_1<(l0.length:Int)
    ·
     rw [if_pos c4] at H
     have c4b0:decide (x13_1<(l0.length:Int))=true:=decide_eq_true c4
     clear c4
     by_cases c5:0≤x13_1
     ·
      rw [if_pos c5] at H
      have c5b0:decide (0≤x13_1)=true:=decide_eq_true c5
      clear c5
      by_cases c6:x13_1<(l0.length:Int)
      ·
       rw [if_pos c6] at H
       have c6b0:decide (x13_1<(l0.length:Int))=true:=decide_eq_true c6
       clear c6
       by_cases c7:x13_1<(l1.length:Int)
       ·
        rw [if_pos c7] at H
        have c7b0:decide (x13_1<(l1.length:Int))=true:=decide_eq_true c7
        clear c7
        by_cases c8:(rd l0 x13_1)=(rd l1 x13_1)
        ·
         rw [if_pos c8] at H
         have c8b0:((rd l0 x13_1) == (rd l1 x13_1))=true:=beq_iff_eq.mpr c8
         have c8b1:((rd l0 x13_1) != (rd l1 x13_1))=false:=bne_eq_false_iff_eq.mpr c8
         clear c8
         have H':=Aside0.mk H
         clear H
         have p104:0≤(x13_1:Int):=of_decide_eq_true (by (with_reducible assumption))
         have q104:x13_1<(l0.length:Int):=of_decide_eq_true (by (with_reducible assumption))
         obtain ⟨ad104,e104,hx104_0⟩:=Kd.at_int HR0.out x13_1 p104 q104
         cases e104
         replace p104:=eq_true p104
         replace q104:=eq_true q104
         have p105:0≤(x13_1:Int):=of_decide_eq_true (by (with_reducible assumption))
         have q105:x13_1<(l1.length:Int):=of_decide_eq_true (by (with_reducible assumption))
         obtain ⟨ad105,e105,hx105_0⟩:=Kd.at_int HR1.out x13_1 p105 q105
         cases e105
         replace p105:=eq_true p105
         replace q105:=eq_true q105
         go_wp2
         repeat (go_quiet (fail);try go_wp2)
         go_roundg k1
         case measure=>have:=HK1.out;omega
         case rel=>exact ⟨(wrap64 (x13_1+1)),(by rfl),H',⟨by have:=HK1.out;omega⟩,by repeat (first|exact Drawn0.refl _|apply Drawn0.step)⟩
        ·
         rw [if_neg c8] at H
         have c8b0:((rd l0 x13_1) == (rd l1 x13_1))=false:=beq_eq_false_iff_ne.mpr c8
         have c8b1:((rd l0 x13_1) != (rd l1 x13_1))=true:=bne_iff_ne.mpr c8
         obtain rfl:=Option.some.inj H
         have p104:0≤(x13_1:Int):=of_decide_eq_true (by (with_reducible assumption))
         have q104:x13_1<(l0.length:Int):=of_decide_eq_true (by (with_reducible assumption))
         obtain ⟨ad104,e104,hx104_0⟩:=Kd.at_int HR0.out x13_1 p104 q104
         cases e104
         replace p104:=eq_true p104
         replace q104:=eq_true q104
         have p105:0≤(x13_1:Int):=of_decide_eq_true (by (with_reducible assumption))
         have q105:x13_1<(l1.length:Int):=of_decide_eq_true (by (with_reducible assumption))
         obtain ⟨ad105,e105,hx105_0⟩:=Kd.at_int HR1.out x13_1 p105 q105
         cases e105
         replace p105:=eq_true p105
         replace q105:=eq_true q105
         go_wp2
         repeat (go_quiet (fail);try go_wp2)
         go_ret
         exact ⟨by rfl,by repeat (first|exact Drawn0.refl _|apply Drawn0.step)⟩
       ·
        rw [if_neg c7] at H
        exact absurd H (by simp)
      ·
       rw [if_neg c6] at H
       exact absurd H (by simp)
     ·
      rw [if_neg c5] at H
      exact absurd H (by simp)
    ·
     rw [if_neg c4] at H
     have c4b0:decide (x13_1<(l0.length:Int))=false:=decide_eq_false c4
     clear c4
     obtain rfl:=Option.some.inj H
     go_wp2
     repeat (go_quiet (fail);try go_wp2)
     go_ret
     exact ⟨by rfl,by repeat (first|exact Drawn0.refl _|apply Drawn0.step)⟩
 ·
  rw [if_neg c3] at H
  have c3b0:((l0.length:Int) == (l1.length:Int))=false:=beq_eq_false_iff_ne.mpr c3
  have c3b1:((l0.length:Int) != (l1.length:Int))=true:=bne_iff_ne.mpr c3
  have c3b2:(l0.length == l1.length)=false:=by (simp at c3 ⊢;omega)
  obtain rfl:=Option.some.inj H
  go_enter Try.func105,Try.ntmps105
  go_wp2
  repeat (go_quiet (fail);try go_wp2)
  go_ret
  exact ⟨by rfl,by repeat (exact Drawn0.refl _)⟩
def cmp_isNaN_string.f (a0:ByteArray):Option (Bool):=some (a0.toList != a0.toList)
theorem cmp_isNaN_string.calls (a0:ByteArray) (r:Bool) (w:World) (h:cmp_isNaN_string.f a0=some r) :
 Calls Try.prog 102 #[.string a0] w fun e w'=>e=.returned (.bool r)∧Drawn0 w w':=by
 have H:(some (a0.toList != a0.toList))=some r:=h
 clear h
 obtain rfl:=Option.some.inj H
 go_enter Try.func102,Try.ntmps102
 go_wp2
 go_ret
 exact ⟨by rfl,by repeat (exact Drawn0.refl _)⟩
def cmp_Compare_string.f (a0:ByteArray) (a1:ByteArray):Option (Int):=(cmp_isNaN_string.f a0).bind fun t111=>((cmp_isNaN_string.f a1).bind fun t112=>(if t111=true then (if t112=true then (some 0) else (some (-1))) else (if t112=true then (some 1) else (if (Op.bytesLess a0.toList a1.toList)=true then (some (-1)) else (if (Op.bytesLess a1.toList a0.toList)=true then (some 1) else (some 0))))))
theorem cmp_Compare_string.calls (a0:ByteArray) (a1:ByteArray) (r:Int) (w:World) (h:cmp_Compare_string.f a0 a1=some r) :
 Calls Try.prog 71 #[.string a0,.string a1] w fun e w'=>e=.returned (.int .i64 r)∧Drawn0 w w':=by
 have H:((cmp_isNaN_string.f a0).bind fun t111=>((cmp_isNaN_string.f a1).bind fun t112=>(if t111=true then (if t112=true then (some 0) else (some (-1))) else (if t112=true then (some 1) else (if (Op.bytesLess a0.toList a1.toList)=true then (some (-1)) else (if (Op.bytesLess a1.toList a0.toList)=true then (some 1) else (some 0)))))))=some r:=h
 clear h
 replace H:=Option.bind_eq_some_iff.mp H
 obtain ⟨t111,A30,H⟩:=H
 replace H:((cmp_isNaN_string.f a1).bind fun t112=>(if t111=true then (if t112=true then (some 0) else (some (-1))) else (if t112=true then (some 1) else (if (Op.bytesLess a0.toList a1.toList)=true then (some (-1)) else (if (Op.bytesLess a1.toList a0.toList)=true then (some 1) else (some 0))))))=some r:=H
 have A3:=Aside0.mk A30
 clear A30
 replace H:=Option.bind_eq_some_iff.mp H
 obtain ⟨t112,A40,H⟩:=H
 replace H:(if t111=true then (if t112=true then (some 0) else (some (-1))) else (if t112=true then (some 1) else (if (Op.bytesLess a0.toList a1.toList)=true then (some (-1)) else (if (Op.bytesLess a1.toList a0.toList)=true then (some 1) else (some 0)))))=some r:=H
 have A4:=Aside0.mk A40
 clear A40
 by_cases c5:t111=true
 ·
  subst c5
  have H1:(if t112=true then (some 0) else (some (-1)))=some r:=by rw [if_pos rfl] at H;exact H
  clear H
  have H:=H1
  clear H1
  by_cases c6:t112=true
  ·
   subst c6
   have H1:(some 0)=some r:=by rw [if_pos rfl] at H;exact H
   clear H
   have H:=H1
   clear H1
   obtain rfl:=Option.some.inj H
   go_enter Try.func71,Try.ntmps71
   go_wp2_with (first|((with_reducible refine aZk (f:=102) rfl ?_);refine aZK (some 8) rfl rfl Try.func102 (by kernel_rfl) rfl #[.string a0] rfl (by (try simp only [List.map_toArray,List.map_cons,List.map_nil]);rfl) ?_;(with_reducible refine (cmp_isNaN_string.calls a0 true _ A3.out).mono ?_);rintro e w' ⟨rfl,⟨nd,rfl⟩⟩;refine ⟨_,rfl,?_⟩)|((with_reducible refine aZk (f:=102) rfl ?_);refine aZK (some 10) rfl rfl Try.func102 (by kernel_rfl) rfl #[.string a1] rfl (by (try simp only [List.map_toArray,List.map_cons,List.map_nil]);rfl) ?_;(with_reducible refine (cmp_isNaN_string.calls a1 true _ A4.out).mono ?_);rintro e w' ⟨rfl,⟨nd,rfl⟩⟩;refine ⟨_,rfl,?_⟩))
   go_ret
   exact ⟨by rfl,by repeat (first|exact Drawn0.refl _|apply Drawn0.step)⟩
  ·
   replace c6:=Bool.eq_false_iff.mpr c6
   subst c6
   have H1:(some (-1))=some r:=by rw [if_neg (show ¬(false=true) by decide)] at H;exact H
   clear H
   have H:=H1
   clear H1
   obtain rfl:=Option.some.inj H
   go_enter Try.func71,Try.ntmps71
   go_wp2_with (first|((with_reducible refine aZk (f:=102) rfl ?_);refine aZK (some 8) rfl rfl Try.func102 (by kernel_rfl) rfl #[.string a0] rfl (by (try simp only [List.map_toArray,List.map_cons,List.map_nil]);rfl) ?_;(with_reducible refine (cmp_isNaN_string.calls a0 true _ A3.out).mono ?_);rintro e w' ⟨rfl,⟨nd,rfl⟩⟩;refine ⟨_,rfl,?_⟩)|((with_reducible refine aZk (f:=102) rfl ?_);refine aZK (some 10) rfl rfl Try.func102 (by kernel_rfl) rfl #[.string a1] rfl (by (try simp only [List.map_toArray,List.map_cons,List.map_nil]);rfl) ?_;(with_reducible refine (cmp_isNaN_string.calls a1 false _ A4.out).mono ?_);rintro e w' ⟨rfl,⟨nd,rfl⟩⟩;refine ⟨_,rfl,?_⟩))
   go_ret
   exact ⟨by rfl,by repeat (first|exact Drawn0.refl _|apply Drawn0.step)⟩
 ·
  replace c5:=Bool.eq_false_iff.mpr c5
  subst c5
  have H1:(if t112=true then (some 1) else (if (Op.bytesLess a0.toList a1.toList)=true then (some (-1)) else (if (Op.bytesLess a1.toList a0.toList)=true then (some 1) else (some 0))))=some r:=by rw [if_neg (show ¬(false=true) by decide)] at H;exact H
  clear H
  have H:=H1
  clear H1
  by_cases c7:t112=true
  ·
   subst c7
   have H1:(some 1)=some r:=by rw [if_pos rfl] at H;exact H
   clear H
   have H:=H1
   clear H1
   obtain rfl:=Option.some.inj H
   go_enter Try.func71,Try.ntmps71
   go_wp2_with (first|((with_reducible refine aZk (f:=102) rfl ?_);refine aZK (some 8) rfl rfl Try.func102 (by kernel_rfl) rfl #[.string a0] rfl (by (try simp only [List.map_toArray,List.map_cons,List.map_nil]);rfl) ?_;(with_reducible refine (cmp_isNaN_string.calls a0 false _ A3.out).mono ?_);rintro e w' ⟨rfl,⟨nd,rfl⟩⟩;refine ⟨_,rfl,?_⟩)|((with_reducible refine aZk (f:=102) rfl ?_);refine aZK (some 10) rfl rfl Try.func102 (by kernel_rfl) rfl #[.string a1] rfl (by (try simp only [List.map_toArray,List.map_cons,List.map_nil]);rfl) ?_;(with_reducible refine (cmp_isNaN_string.calls a1 true _ A4.out).mono ?_);rintro e w' ⟨rfl,⟨nd,rfl⟩⟩;refine ⟨_,rfl,?_⟩))
   go_ret
   exact ⟨by rfl,by repeat (first|exact Drawn0.refl _|apply Drawn0.step)⟩
  ·
   replace c7:=Bool.eq_false_iff.mpr c7
   subst c7
   have H1:(if (Op.bytesLess a0.toList a1.toList)=true then (some (-1)) else (if (Op.bytesLess a1.toList a0.toList)=true then (some 1) else (some 0)))=some r:=by rw [if_neg (show ¬(false=true) by decide)] at H;exact H
   clear H
   have H:=H1
   clear H1
   by_cases c8:(Op.bytesLess a0.toList a1.toList)=true
   ·
    rw [if_pos c8] at H
    have c8b0:(Op.bytesLess a0.toList a1.toList)=true:=c8
    clear c8
    obtain rfl:=Option.some.inj H
    go_enter Try.func71,Try.ntmps71
    go_wp2_with (first|((with_reducible refine aZk (f:=102) rfl ?_);refine aZK (some 8) rfl rfl Try.func102 (by kernel_rfl) rfl #[.string a0] rfl (by (try simp only [List.map_toArray,List.map_cons,List.map_nil]);rfl) ?_;(with_reducible refine (cmp_isNaN_string.calls a0 false _ A3.out).mono ?_);rintro e w' ⟨rfl,⟨nd,rfl⟩⟩;refine ⟨_,rfl,?_⟩)|((with_reducible refine aZk (f:=102) rfl ?_);refine aZK (some 10) rfl rfl Try.func102 (by kernel_rfl) rfl #[.string a1] rfl (by (try simp only [List.map_toArray,List.map_cons,List.map_nil]);rfl) ?_;(with_reducible refine (cmp_isNaN_string.calls a1 false _ A4.out).mono ?_);rintro e w' ⟨rfl,⟨nd,rfl⟩⟩;refine ⟨_,rfl,?_⟩))
    go_ret
    exact ⟨by rfl,by repeat (first|exact Drawn0.refl _|apply Drawn0.step)⟩
   ·
    rw [if_neg c8] at H
    have c8b0:(Op.bytesLess a0.toList a1.toList)=false:=by simpa using c8
    clear c8
    by_cases c9:(Op.bytesLess a1.toList a0.toList)=true
    ·
     rw [if_pos c9] at H
     have c9b0:(Op.bytesLess a1.toList a0.toList)=true:=c9
     clear c9
     obtain rfl:=Option.some.inj H
     go_enter Try.func71,Try.ntmps71
     go_wp2_with (first|((with_reducible refine aZk (f:=102) rfl ?_);refine aZK (some 8) rfl rfl Try.func102 (by kernel_rfl) rfl #[.string a0] rfl (by (try simp only [List.map_toArray,List.map_cons,List.map_nil]);rfl) ?_;(with_reducible refine (cmp_isNaN_string.calls a0 false _ A3.out).mono ?_);rintro e w' ⟨rfl,⟨nd,rfl⟩⟩;refine ⟨_,rfl,?_⟩)|((with_reducible refine aZk (f:=102) rfl ?_);refine aZK (some 10) rfl rfl Try.func102 (by kernel_rfl) rfl #[.string a1] rfl (by (try simp only [List.map_toArray,List.map_cons,List.map_nil]);rfl) ?_;(with_reducible refine (cmp_isNaN_string.calls a1 false _ A4.out).mono ?_);rintro e w' ⟨rfl,⟨nd,rfl⟩⟩;refine ⟨_,rfl,?_⟩))
     go_ret
     exact ⟨by rfl,by repeat (first|exact Drawn0.refl _|apply Drawn0.step)⟩
    ·
     rw [if_neg c9] at H
     have c9b0:(Op.bytesLess a1.toList a0.toList)=false:=by simpa using c9
     clear c9
     obtain rfl:=Option.some.inj H
     go_enter Try.func71,Try.ntmps71
     go_wp2_with (first|((with_reducible refine aZk (f:=102) rfl ?_);refine aZK (some 8) rfl rfl Try.func102 (by kernel_rfl) rfl #[.string a0] rfl (by (try simp only [List.map_toArray,List.map_cons,List.map_nil]);rfl) ?_;(with_reducible refine (cmp_isNaN_string.calls a0 false _ A3.out).mono ?_);rintro e w' ⟨rfl,⟨nd,rfl⟩⟩;refine ⟨_,rfl,?_⟩)|((with_reducible refine aZk (f:=102) rfl ?_);refine aZK (some 10) rfl rfl Try.func102 (by kernel_rfl) rfl #[.string a1] rfl (by (try simp only [List.map_toArray,List.map_cons,List.map_nil]);rfl) ?_;(with_reducible refine (cmp_isNaN_string.calls a1 false _ A4.out).mono ?_);rintro e w' ⟨rfl,⟨nd,rfl⟩⟩;refine ⟨_,rfl,?_⟩))
     go_ret
     exact ⟨by rfl,by repeat (first|exact Drawn0.refl _|apply Drawn0.step)⟩
def cmp_isNaN_int.f (a0:Int):Option (Bool):=some (a0 != a0)
theorem cmp_isNaN_int.calls (a0:Int) (r:Bool) (w:World) (h:cmp_isNaN_int.f a0=some r) :
 Calls Try.prog 103 #[.int .i64 a0] w fun e w'=>e=.returned (.bool r)∧Drawn0 w w':=by
 have H:(some (a0 != a0))=some r:=h
 clear h
 obtain rfl:=Option.some.inj H
 go_enter Try.func103,Try.ntmps103
 go_wp2
 go_ret
 exact ⟨by rfl,by repeat (exact Drawn0.refl _)⟩
def cmp_Compare_int.f (a0:Int) (a1:Int):Option (Int):=(cmp_isNaN_int.f a0).bind fun t113=>((cmp_isNaN_int.f a1).bind fun t114=>(if t113=true then (if t114=true then (some 0) else (some (-1))) else (if t114=true then (some 1) else (if a0<a1 then (some (-1)) else (if a0 > a1 then (some 1) else (some 0))))))
theorem cmp_Compare_int.calls (a0:Int) (a1:Int) (r:Int) (w:World) (h:cmp_Compare_int.f a0 a1=some r) :
 Calls Try.prog 75 #[.int .i64 a0,.int .i64 a1] w fun e w'=>e=.returned (.int .i64 r)∧Drawn0 w w':=by
 have H:((cmp_isNaN_int.f a0).bind fun t113=>((cmp_isNaN_int.f a1).bind fun t114=>(if t113=true then (if t114=true then (some 0) else (some (-1))) else (if t114=true then (some 1) else (if a0<a1 then (some (-1)) else (if a0 > a1 then (some 1) else (some 0)))))))=some r:=h
 clear h
 replace H:=Option.bind_eq_some_iff.mp H
 obtain ⟨t113,A30,H⟩:=H
 replace H:((cmp_isNaN_int.f a1).bind fun t114=>(if t113=true then (if t114=true then (some 0) else (some (-1))) else (if t114=true then (some 1) else (if a0<a1 then (some (-1)) else (if a0 > a1 then (some 1) else (some 0))))))=some r:=H
 have A3:=Aside0.mk A30
 clear A30
 replace H:=Option.bind_eq_some_iff.mp H
 obtain ⟨t114,A40,H⟩:=H
 replace H:(if t113=true then (if t114=true then (some 0) else (some (-1))) else (if t114=true then (some 1) else (if a0<a1 then (some (-1)) else (if a0 > a1 then (some 1) else (some 0)))))=some r:=H
 have A4:=Aside0.mk A40
 clear A40
 by_cases c5:t113=true
 ·
  subst c5
  have H1:(if t114=true then (some 0) else (some (-1)))=some r:=by rw [if_pos rfl] at H;exact H
  clear H
  have H:=H1
  clear H1
  by_cases c6:t114=true
  ·
   subst c6
   have H1:(some 0)=some r:=by rw [if_pos rfl] at H;exact H
   clear H
   have H:=H1
   clear H1
   obtain rfl:=Option.some.inj H
   go_enter Try.func75,Try.ntmps75
   go_wp2_with (first|((with_reducible refine aZk (f:=103) rfl ?_);refine aZK (some 8) rfl rfl Try.func103 (by kernel_rfl) rfl #[.int .i64 a0] rfl (by (try simp only [List.map_toArray,List.map_cons,List.map_nil]);rfl) ?_;(with_reducible refine (cmp_isNaN_int.calls a0 true _ A3.out).mono ?_);rintro e w' ⟨rfl,⟨nd,rfl⟩⟩;refine ⟨_,rfl,?_⟩)|((with_reducible refine aZk (f:=103) rfl ?_);refine aZK (some 10) rfl rfl Try.func103 (by kernel_rfl) rfl #[.int .i64 a1] rfl (by (try simp only [List.map_toArray,List.map_cons,List.map_nil]);rfl) ?_;(with_reducible refine (cmp_isNaN_int.calls a1 true _ A4.out).mono ?_);rintro e w' ⟨rfl,⟨nd,rfl⟩⟩;refine ⟨_,rfl,?_⟩))
   go_ret
   exact ⟨by rfl,by repeat (first|exact Drawn0.refl _|apply Drawn0.step)⟩
  ·
   replace c6:=Bool.eq_false_iff.mpr c6
   subst c6
   have H1:(some (-1))=some r:=by rw [if_neg (show ¬(false=true) by decide)] at H;exact H
   clear H
   have H:=H1
   clear H1
   obtain rfl:=Option.some.inj H
   go_enter Try.func75,Try.ntmps75
   go_wp2_with (first|((with_reducible refine aZk (f:=103) rfl ?_);refine aZK (some 8) rfl rfl Try.func103 (by kernel_rfl) rfl #[.int .i64 a0] rfl (by (try simp only [List.map_toArray,List.map_cons,List.map_nil]);rfl) ?_;(with_reducible refine (cmp_isNaN_int.calls a0 true _ A3.out).mono ?_);rintro e w' ⟨rfl,⟨nd,rfl⟩⟩;refine ⟨_,rfl,?_⟩)|((with_reducible refine aZk (f:=103) rfl ?_);refine aZK (some 10) rfl rfl Try.func103 (by kernel_rfl) rfl #[.int .i64 a1] rfl (by (try simp only [List.map_toArray,List.map_cons,List.map_nil]);rfl) ?_;(with_reducible refine (cmp_isNaN_int.calls a1 false _ A4.out).mono ?_);rintro e w' ⟨rfl,⟨nd,rfl⟩⟩;refine ⟨_,rfl,?_⟩))
   go_ret
   exact ⟨by rfl,by repeat (first|exact Drawn0.refl _|apply Drawn0.step)⟩
 ·
  replace c5:=Bool.eq_false_iff.mpr c5
  subst c5
  have H1:(if t114=true then (some 1) else (if a0<a1 then (some (-1)) else (if a0 > a1 then (some 1) else (some 0))))=some r:=by rw [if_neg (show ¬(false=true) by decide)] at H;exact H
  clear H
  have H:=H1
  clear H1
  by_cases c7:t114=true
  ·
   subst c7
   have H1:(some 1)=some r:=by rw [if_pos rfl] at H;exact H
   clear H
   have H:=H1
   clear H1
   obtain rfl:=Option.some.inj H
   go_enter Try.func75,Try.ntmps75
   go_wp2_with (first|((with_reducible refine aZk (f:=103) rfl ?_);refine aZK (some 8) rfl rfl Try.func103 (by kernel_rfl) rfl #[.int .i64 a0] rfl (by (try simp only [List.map_toArray,List.map_cons,List.map_nil]);rfl) ?_;(with_reducible refine (cmp_isNaN_int.calls a0 false _ A3.out).mono ?_);rintro e w' ⟨rfl,⟨nd,rfl⟩⟩;refine ⟨_,rfl,?_⟩)|((with_reducible refine aZk (f:=103) rfl ?_);refine aZK (some 10) rfl rfl Try.func103 (by kernel_rfl) rfl #[.int .i64 a1] rfl (by (try simp only [List.map_toArray,List.map_cons,List.map_nil]);rfl) ?_;(with_reducible refine (cmp_isNaN_int.calls a1 true _ A4.out).mono ?_);rintro e w' ⟨rfl,⟨nd,rfl⟩⟩;refine ⟨_,rfl,?_⟩))
   go_ret
   exact ⟨by rfl,by repeat (first|exact Drawn0.refl _|apply Drawn0.step)⟩
  ·
   replace c7:=Bool.eq_false_iff.mpr c7
   subst c7
   have H1:(if a0<a1 then (some (-1)) else (if a0 > a1 then (some 1) else (some 0)))=some r:=by rw [if_neg (show ¬(false=true) by decide)] at H;exact H
   clear H
   have H:=H1
   clear H1
   by_cases c8:a0<a1
   ·
    rw [if_pos c8] at H
    have c8b0:decide (a0<a1)=true:=decide_eq_true c8
    clear c8
    obtain rfl:=Option.some.inj H
    go_enter Try.func75,Try.ntmps75
    go_wp2_with (first|((with_reducible refine aZk (f:=103) rfl ?_);refine aZK (some 8) rfl rfl Try.func103 (by kernel_rfl) rfl #[.int .i64 a0] rfl (by (try simp only [List.map_toArray,List.map_cons,List.map_nil]);rfl) ?_;(with_reducible refine (cmp_isNaN_int.calls a0 false _ A3.out).mono ?_);rintro e w' ⟨rfl,⟨nd,rfl⟩⟩;refine ⟨_,rfl,?_⟩)|((with_reducible refine aZk (f:=103) rfl ?_);refine aZK (some 10) rfl rfl Try.func103 (by kernel_rfl) rfl #[.int .i64 a1] rfl (by (try simp only [List.map_toArray,List.map_cons,List.map_nil]);rfl) ?_;(with_reducible refine (cmp_isNaN_int.calls a1 false _ A4.out).mono ?_);rintro e w' ⟨rfl,⟨nd,rfl⟩⟩;refine ⟨_,rfl,?_⟩))
    go_ret
    exact ⟨by rfl,by repeat (first|exact Drawn0.refl _|apply Drawn0.step)⟩
   ·
    rw [if_neg c8] at H
    have c8b0:decide (a0<a1)=false:=decide_eq_false c8
    clear c8
    by_cases c9:a0 > a1
    ·
     rw [if_pos c9] at H
     have c9b0:decide (a1<a0)=true:=decide_eq_true c9
     clear c9
     obtain rfl:=Option.some.inj H
     go_enter Try.func75,Try.ntmps75
     go_wp2_with (first|((with_reducible refine aZk (f:=103) rfl ?_);refine aZK (some 8) rfl rfl Try.func103 (by kernel_rfl) rfl #[.int .i64 a0] rfl (by (try simp only [List.map_toArray,List.map_cons,List.map_nil]);rfl) ?_;(with_reducible refine (cmp_isNaN_int.calls a0 false _ A3.out).mono ?_);rintro e w' ⟨rfl,⟨nd,rfl⟩⟩;refine ⟨_,rfl,?_⟩)|((with_reducible refine aZk (f:=103) rfl ?_);refine aZK (some 10) rfl rfl Try.func103 (by kernel_rfl) rfl #[.int .i64 a1] rfl (by (try simp only [List.map_toArray,List.map_cons,List.map_nil]);rfl) ?_;(with_reducible refine (cmp_isNaN_int.calls a1 false _ A4.out).mono ?_);rintro e w' ⟨rfl,⟨nd,rfl⟩⟩;refine ⟨_,rfl,?_⟩))
     go_ret
     exact ⟨by rfl,by repeat (first|exact Drawn0.refl _|apply Drawn0.step)⟩
    ·
     rw [if_neg c9] at H
     have c9b0:decide (a1<a0)=false:=decide_eq_false c9
     clear c9
     obtain rfl:=Option.some.inj H
     go_enter Try.func75,Try.ntmps75
     go_wp2_with (first|((with_reducible refine aZk (f:=103) rfl ?_);refine aZK (some 8) rfl rfl Try.func103 (by kernel_rfl) rfl #[.int .i64 a0] rfl (by (try simp only [List.map_toArray,List.map_cons,List.map_nil]);rfl) ?_;(with_reducible refine (cmp_isNaN_int.calls a0 false _ A3.out).mono ?_);rintro e w' ⟨rfl,⟨nd,rfl⟩⟩;refine ⟨_,rfl,?_⟩)|((with_reducible refine aZk (f:=103) rfl ?_);refine aZK (some 10) rfl rfl Try.func103 (by kernel_rfl) rfl #[.int .i64 a1] rfl (by (try simp only [List.map_toArray,List.map_cons,List.map_nil]);rfl) ?_;(with_reducible refine (cmp_isNaN_int.calls a1 false _ A4.out).mono ?_);rintro e w' ⟨rfl,⟨nd,rfl⟩⟩;refine ⟨_,rfl,?_⟩))
     go_ret
     exact ⟨by rfl,by repeat (first|exact Drawn0.refl _|apply Drawn0.step)⟩
def slices_Compare_string_string.l0:Nat→List ByteArray→List ByteArray→List ByteArray→Int→Int→Option (Int)
  | 0,_,_,_,_,_=>none
  | k+1,x0,x1,x9,x10,x11=>if x11<x10 then (if 0≤x11 then (if x11<(x9.length:Int) then (if x11≥(x1.length:Int) then (some 1) else (if x11<(x1.length:Int) then ((cmp_Compare_string.f (rdOf ByteArray.empty x9 x11) (rdOf ByteArray.empty x1 x11)).bind fun t117=>(if t117=0 then (slices_Compare_string_string.l0 k x0 x1 x9 x10 (wrap64 (x11+1))) else (some t117))) else (none))) else (none)) else (none)) else (if (x0.length:Int)<(x1.length:Int) then (some (-1)) else (some 0))
def slices_Compare_string_string.f (k:Nat) (l0:List ByteArray) (l1:List ByteArray):Option (Int):=slices_Compare_string_string.l0 k l0 l1 l0 (l0.length:Int) 0
theorem slices_Compare_string_string.calls (k:Nat) (A0:Option Addr) (c0:Nat) (l0:List ByteArray) (A1:Option Addr) (c1:Nat) (l1:List ByteArray) (r:Int) (w:World) (hr0:Kd.C Kd.string w A0 l0.length l0) (hc0:l0.length≤c0) (hr1:Kd.C Kd.string w A1 l1.length l1) (hc1:l1.length≤c1) (h:slices_Compare_string_string.f k l0 l1=some r) :
 Calls Try.prog 78 #[.slice A0 l0.length c0,.slice A1 l1.length c1] w fun e w'=>e=.returned (.int .i64 r)∧Drawn0 w w':=by
 have HR0:=Aside0.mk hr0
 have HC0:=Aside0.mk hc0
 clear hr0 hc0
 have HR1:=Aside0.mk hr1
 have HC1:=Aside0.mk hc1
 clear hr1 hc1
 have H:(slices_Compare_string_string.l0 k l0 l1 l0 (l0.length:Int) 0)=some r:=h
 clear h
 have H':=Aside0.mk H
 clear H
 go_enter Try.func78,Try.ntmps78
 go_wp2
 go_loopg [11] k (fun kq v11 w'=>∃ (x11_1:Int),v11=.int .i64 x11_1∧Aside0 (slices_Compare_string_string.l0 kq l0 l1 l0 (l0.length:Int) x11_1=some r)∧Aside0 (kq≤k)∧Drawn0 w w')
 case atStart=>exact ⟨(0),(by rfl),H',⟨Nat.le_refl _⟩,by repeat (exact Drawn0.refl _)⟩
 case round =>
  clear H'
  obtain ⟨x11_1,rfl,HA,HK1,⟨m1,rfl⟩⟩:=hrel
  cases gk with
  | zero=>exact absurd HA.out (by simp [slices_Compare_string_string.l0])
  | succ k1 =>
   have H:=HA.out
   clear HA
   simp only [slices_Compare_string_string.l0] at H
   by_cases c3:x11_1<(l0.length:Int)
   ·
    rw [if_pos c3] at H
    have c3b0:decide (x11_1<(l0.length:Int))=true:=decide_eq_true c3
    clear c3
    by_cases c4:0≤x11_1
    ·
     rw [if_pos c4] at H
     have c4b0:decide (0≤x11_1)=true:=decide_eq_true c4
     clear c4
     by_cases c5:x11_1<(l0.length:Int)
     ·
      rw [if_pos c5] at H
      have c5b0:decide (x11_1<(l0.length:Int))=true:=decide_eq_true c5
      clear c5
      by_cases c6:x11_1≥(l1.length:Int)
      ·
       rw [if_pos c6] at H
       have c6b0:decide ((l1.length:Int)≤x11_1)=true:=decide_eq_true c6
       clear c6
       obtain rfl:=Option.some.inj H
       have p115:0≤(x11_1:Int):=of_decide_eq_true (by (with_reducible assumption))
       have q115:x11_1<(l0.length:Int):=of_decide_eq_true (by (with_reducible assumption))
       obtain ⟨ad115,e115,hx115_0⟩:=Kd.at_string HR0.out x11_1 p115 q115
       cases e115
       replace p115:=eq_true p115
       replace q115:=eq_true q115
       go_wp2
       go_ret
       exact ⟨by rfl,by repeat (first|exact Drawn0.refl _|apply Drawn0.step)⟩
      ·
       rw [if_neg c6] at H
       have c6b0:decide ((l1.length:Int)≤x11_1)=false:=decide_eq_false c6
       clear c6
       by_cases c7:x11_1<(l1.length:Int)
       ·
        rw [if_pos c7] at H
        have c7b0:decide (x11_1<(l1.length:Int))=true:=decide_eq_true c7
        clear c7
        replace H:=Option.bind_eq_some_iff.mp H
        obtain ⟨t117,A80,H⟩:=H
        replace H:(if t117=0 then (slices_Compare_string_string.l0 k1 l0 l1 l0 (l0.length:Int) (wrap64 (x11_1+1))) else (some t117))=some r:=H
        have A8:=Aside0.mk A80
        clear A80
        by_cases c9:t117=0
        ·
         rw [if_pos c9] at H
         have c9b0:(t117 == 0)=true:=beq_iff_eq.mpr c9
         have c9b1:(t117 != 0)=false:=bne_eq_false_iff_eq.mpr c9
         clear c9
         have H':=Aside0.mk H
         clear H
         have p115:0≤(x11_1:Int):=of_decide_eq_true (by (with_reducible assumption))
         have q115:x11_1<(l0.length:Int):=of_decide_eq_true (by (with_reducible assumption))
         obtain ⟨ad115,e115,hx115_0⟩:=Kd.at_string HR0.out x11_1 p115 q115
         cases e115
         replace p115:=eq_true p115
         replace q115:=eq_true q115
         have p116:0≤(x11_1:Int):=of_decide_eq_true (by (with_reducible assumption))
         have q116:x11_1<(l1.length:Int):=of_decide_eq_true (by (with_reducible assumption))
         obtain ⟨ad116,e116,hx116_0⟩:=Kd.at_string HR1.out x11_1 p116 q116
         cases e116
         replace p116:=eq_true p116
         replace q116:=eq_true q116
         go_wp2_with (((with_reducible refine aZk (f:=71) rfl ?_);refine aZK (some 26) rfl rfl Try.func71 (by kernel_rfl) rfl #[.string (rdOf ByteArray.empty l0 x11_1),.string (rdOf ByteArray.empty l1 x11_1)] rfl (by (try simp only [List.map_toArray,List.map_cons,List.map_nil]);rfl) ?_;(with_reducible refine (cmp_Compare_string.calls (rdOf ByteArray.empty l0 x11_1) (rdOf ByteArray.empty l1 x11_1) t117 _ A8.out).mono ?_);rintro e w' ⟨rfl,⟨nd,rfl⟩⟩;refine ⟨_,rfl,?_⟩))
         go_roundg k1
         case measure=>have:=HK1.out;omega
         case rel=>exact ⟨(wrap64 (x11_1+1)),(by rfl),H',⟨by have:=HK1.out;omega⟩,by repeat (first|exact Drawn0.refl _|apply Drawn0.step)⟩
        ·
         rw [if_neg c9] at H
         have c9b0:(t117 == 0)=false:=beq_eq_false_iff_ne.mpr c9
         have c9b1:(t117 != 0)=true:=bne_iff_ne.mpr c9
         obtain rfl:=Option.some.inj H
         have p115:0≤(x11_1:Int):=of_decide_eq_true (by (with_reducible assumption))
         have q115:x11_1<(l0.length:Int):=of_decide_eq_true (by (with_reducible assumption))
         obtain ⟨ad115,e115,hx115_0⟩:=Kd.at_string HR0.out x11_1 p115 q115
         cases e115
         replace p115:=eq_true p115
         replace q115:=eq_true q115
         have p116:0≤(x11_1:Int):=of_decide_eq_true (by (with_reducible assumption))
         have q116:x11_1<(l1.length:Int):=of_decide_eq_true (by (with_reducible assumption))
         obtain ⟨ad116,e116,hx116_0⟩:=Kd.at_string HR1.out x11_1 p116 q116
         cases e116
         replace p116:=eq_true p116
         replace q116:=eq_true q116
         go_wp2_with (((with_reducible refine aZk (f:=71) rfl ?_);refine aZK (some 26) rfl rfl Try.func71 (by kernel_rfl) rfl #[.string (rdOf ByteArray.empty l0 x11_1),.string (rdOf ByteArray.empty l1 x11_1)] rfl (by (try simp only [List.map_toArray,List.map_cons,List.map_nil]);rfl) ?_;(with_reducible refine (cmp_Compare_string.calls (rdOf ByteArray.empty l0 x11_1) (rdOf ByteArray.empty l1 x11_1) t117 _ A8.out).mono ?_);rintro e w' ⟨rfl,⟨nd,rfl⟩⟩;refine ⟨_,rfl,?_⟩))
         go_ret
         exact ⟨by rfl,by repeat (first|exact Drawn0.refl _|apply Drawn0.step)⟩
       ·
        rw [if_neg c7] at H
        exact absurd H (by simp)
     ·
      rw [if_neg c5] at H
      exact absurd H (by simp)
    ·
     rw [if_neg c4] at H
     exact absurd H (by simp)
   ·
    rw [if_neg c3] at H
    have c3b0:decide (x11_1<(l0.length:Int))=false:=decide_eq_false c3
    clear c3
    by_cases c10:(l0.length:Int)<(l1.length:Int)
    ·
     rw [if_pos c10] at H
     have c10b0:decide ((l0.length:Int)<(l1.length:Int))=true:=decide_eq_true c10
     have c10b1:decide (l0.length<l1.length)=true:=decide_eq_true (Int.ofNat_lt.mp c10)
     clear c10
     obtain rfl:=Option.some.inj H
     go_wp2
     go_ret
     exact ⟨by rfl,by repeat (first|exact Drawn0.refl _|apply Drawn0.step)⟩
    ·
     rw [if_neg c10] at H
     have c10b0:decide ((l0.length:Int)<(l1.length:Int))=false:=decide_eq_false c10
     have c10b1:decide (l0.length<l1.length)=false:=decide_eq_false (fun h=>c10 (Int.ofNat_lt.mpr h))
     clear c10
     obtain rfl:=Option.some.inj H
     go_wp2
     go_ret
     exact ⟨by rfl,by repeat (first|exact Drawn0.refl _|apply Drawn0.step)⟩
def slices_Compare_int_int.l0:Nat→List Int→List Int→List Int→Int→Int→Option (Int)
  | 0,_,_,_,_,_=>none
  | k+1,x0,x1,x9,x10,x11=>if x11<x10 then (if 0≤x11 then (if x11<(x9.length:Int) then (if x11≥(x1.length:Int) then (some 1) else (if x11<(x1.length:Int) then ((cmp_Compare_int.f (rd x9 x11) (rd x1 x11)).bind fun t120=>(if t120=0 then (slices_Compare_int_int.l0 k x0 x1 x9 x10 (wrap64 (x11+1))) else (some t120))) else (none))) else (none)) else (none)) else (if (x0.length:Int)<(x1.length:Int) then (some (-1)) else (some 0))
def slices_Compare_int_int.f (k:Nat) (l0:List Int) (l1:List Int):Option (Int):=slices_Compare_int_int.l0 k l0 l1 l0 (l0.length:Int) 0
theorem slices_Compare_int_int.calls (k:Nat) (A0:Option Addr) (c0:Nat) (l0:List Int) (A1:Option Addr) (c1:Nat) (l1:List Int) (r:Int) (w:World) (hr0:Kd.C (Kd.int .i64) w A0 l0.length l0) (hc0:l0.length≤c0) (hr1:Kd.C (Kd.int .i64) w A1 l1.length l1) (hc1:l1.length≤c1) (h:slices_Compare_int_int.f k l0 l1=some r) :
 Calls Try.prog 80 #[.slice A0 l0.length c0,.slice A1 l1.length c1] w fun e w'=>e=.returned (.int .i64 r)∧Drawn0 w w':=by
 have HR0:=Aside0.mk hr0
 have HC0:=Aside0.mk hc0
 clear hr0 hc0
 have HR1:=Aside0.mk hr1
 have HC1:=Aside0.mk hc1
 clear hr1 hc1
 have H:(slices_Compare_int_int.l0 k l0 l1 l0 (l0.length:Int) 0)=some r:=h
 clear h
 have H':=Aside0.mk H
 clear H
 go_enter Try.func80,Try.ntmps80
 go_wp2
 go_loopg [11] k (fun kq v11 w'=>∃ (x11_1:Int),v11=.int .i64 x11_1∧Aside0 (slices_Compare_int_int.l0 kq l0 l1 l0 (l0.length:Int) x11_1=some r)∧Aside0 (kq≤k)∧Drawn0 w w')
 case atStart=>exact ⟨(0),(by rfl),H',⟨Nat.le_refl _⟩,by repeat (exact Drawn0.refl _)⟩
 case round =>
  clear H'
  obtain ⟨x11_1,rfl,HA,HK1,⟨m1,rfl⟩⟩:=hrel
  cases gk with
  | zero=>exact absurd HA.out (by simp [slices_Compare_int_int.l0])
  | succ k1 =>
   have H:=HA.out
   clear HA
   simp only [slices_Compare_int_int.l0] at H
   by_cases c3:x11_1<(l0.length:Int)
   ·
    rw [if_pos c3] at H
    have c3b0:decide (x11_1<(l0.length:Int))=true:=decide_eq_true c3
    clear c3
    by_cases c4:0≤x11_1
    ·
     rw [if_pos c4] at H
     have c4b0:decide (0≤x11_1)=true:=decide_eq_true c4
     clear c4
     by_cases c5:x11_1<(l0.length:Int)
     ·
      rw [if_pos c5] at H
      have c5b0:decide (x11_1<(l0.length:Int))=true:=decide_eq_true c5
      clear c5
      by_cases c6:x11_1≥(l1.length:Int)
      ·
       rw [if_pos c6] at H
       have c6b0:decide ((l1.length:Int)≤x11_1)=true:=decide_eq_true c6
       clear c6
       obtain rfl:=Option.some.inj H
       have p118:0≤(x11_1:Int):=of_decide_eq_true (by (with_reducible assumption))
       have q118:x11_1<(l0.length:Int):=of_decide_eq_true (by (with_reducible assumption))
       obtain ⟨ad118,e118,hx118_0⟩:=Kd.at_int HR0.out x11_1 p118 q118
       cases e118
       replace p118:=eq_true p118
       replace q118:=eq_true q118
       go_wp2
       go_ret
       exact ⟨by rfl,by repeat (first|exact Drawn0.refl _|apply Drawn0.step)⟩
      ·
       rw [if_neg c6] at H
       have c6b0:decide ((l1.length:Int)≤x11_1)=false:=decide_eq_false c6
       clear c6
       by_cases c7:x11_1<(l1.length:Int)
       ·
        rw [if_pos c7] at H
        have c7b0:decide (x11_1<(l1.length:Int))=true:=decide_eq_true c7
        clear c7
        replace H:=Option.bind_eq_some_iff.mp H
        obtain ⟨t120,A80,H⟩:=H
        replace H:(if t120=0 then (slices_Compare_int_int.l0 k1 l0 l1 l0 (l0.length:Int) (wrap64 (x11_1+1))) else (some t120))=some r:=H
        have A8:=Aside0.mk A80
        clear A80
        by_cases c9:t120=0
        ·
         rw [if_pos c9] at H
         have c9b0:(t120 == 0)=true:=beq_iff_eq.mpr c9
         have c9b1:(t120 != 0)=false:=bne_eq_false_iff_eq.mpr c9
         clear c9
         have H':=Aside0.mk H
         clear H
         have p118:0≤(x11_1:Int):=of_decide_eq_true (by (with_reducible assumption))
         have q118:x11_1<(l0.length:Int):=of_decide_eq_true (by (with_reducible assumption))
         obtain ⟨ad118,e118,hx118_0⟩:=Kd.at_int HR0.out x11_1 p118 q118
         cases e118
         replace p118:=eq_true p118
         replace q118:=eq_true q118
         have p119:0≤(x11_1:Int):=of_decide_eq_true (by (with_reducible assumption))
         have q119:x11_1<(l1.length:Int):=of_decide_eq_true (by (with_reducible assumption))
         obtain ⟨ad119,e119,hx119_0⟩:=Kd.at_int HR1.out x11_1 p119 q119
         cases e119
         replace p119:=eq_true p119
         replace q119:=eq_true q119
         go_wp2_with (((with_reducible refine aZk (f:=75) rfl ?_);refine aZK (some 26) rfl rfl Try.func75 (by kernel_rfl) rfl #[.int .i64 (rd l0 x11_1),.int .i64 (rd l1 x11_1)] rfl (by (try simp only [List.map_toArray,List.map_cons,List.map_nil]);rfl) ?_;(with_reducible refine (cmp_Compare_int.calls (rd l0 x11_1) (rd l1 x11_1) t120 _ A8.out).mono ?_);rintro e w' ⟨rfl,⟨nd,rfl⟩⟩;refine ⟨_,rfl,?_⟩))
         go_roundg k1
         case measure=>have:=HK1.out;omega
         case rel=>exact ⟨(wrap64 (x11_1+1)),(by rfl),H',⟨by have:=HK1.out;omega⟩,by repeat (first|exact Drawn0.refl _|apply Drawn0.step)⟩
        ·
         rw [if_neg c9] at H
         have c9b0:(t120 == 0)=false:=beq_eq_false_iff_ne.mpr c9
         have c9b1:(t120 != 0)=true:=bne_iff_ne.mpr c9
         obtain rfl:=Option.some.inj H
         have p118:0≤(x11_1:Int):=of_decide_eq_true (by (with_reducible assumption))
         have q118:x11_1<(l0.length:Int):=of_decide_eq_true (by (with_reducible assumption))
         obtain ⟨ad118,e118,hx118_0⟩:=Kd.at_int HR0.out x11_1 p118 q118
         cases e118
         replace p118:=eq_true p118
         replace q118:=eq_true q118
         have p119:0≤(x11_1:Int):=of_decide_eq_true (by (with_reducible assumption))
         have q119:x11_1<(l1.length:Int):=of_decide_eq_true (by (with_reducible assumption))
         obtain ⟨ad119,e119,hx119_0⟩:=Kd.at_int HR1.out x11_1 p119 q119
         cases e119
         replace p119:=eq_true p119
         replace q119:=eq_true q119
         go_wp2_with (((with_reducible refine aZk (f:=75) rfl ?_);refine aZK (some 26) rfl rfl Try.func75 (by kernel_rfl) rfl #[.int .i64 (rd l0 x11_1),.int .i64 (rd l1 x11_1)] rfl (by (try simp only [List.map_toArray,List.map_cons,List.map_nil]);rfl) ?_;(with_reducible refine (cmp_Compare_int.calls (rd l0 x11_1) (rd l1 x11_1) t120 _ A8.out).mono ?_);rintro e w' ⟨rfl,⟨nd,rfl⟩⟩;refine ⟨_,rfl,?_⟩))
         go_ret
         exact ⟨by rfl,by repeat (first|exact Drawn0.refl _|apply Drawn0.step)⟩
       ·
        rw [if_neg c7] at H
        exact absurd H (by simp)
     ·
      rw [if_neg c5] at H
      exact absurd H (by simp)
    ·
     rw [if_neg c4] at H
     exact absurd H (by simp)
   ·
    rw [if_neg c3] at H
    have c3b0:decide (x11_1<(l0.length:Int))=false:=decide_eq_false c3
    clear c3
    by_cases c10:(l0.length:Int)<(l1.length:Int)
    ·
     rw [if_pos c10] at H
     have c10b0:decide ((l0.length:Int)<(l1.length:Int))=true:=decide_eq_true c10
     have c10b1:decide (l0.length<l1.length)=true:=decide_eq_true (Int.ofNat_lt.mp c10)
     clear c10
     obtain rfl:=Option.some.inj H
     go_wp2
     go_ret
     exact ⟨by rfl,by repeat (first|exact Drawn0.refl _|apply Drawn0.step)⟩
    ·
     rw [if_neg c10] at H
     have c10b0:decide ((l0.length:Int)<(l1.length:Int))=false:=decide_eq_false c10
     have c10b1:decide (l0.length<l1.length)=false:=decide_eq_false (fun h=>c10 (Int.ofNat_lt.mpr h))
     clear c10
     obtain rfl:=Option.some.inj H
     go_wp2
     go_ret
     exact ⟨by rfl,by repeat (first|exact Drawn0.refl _|apply Drawn0.step)⟩
end Go.Proofs.Ytbnplhmmbnmagaa.All
