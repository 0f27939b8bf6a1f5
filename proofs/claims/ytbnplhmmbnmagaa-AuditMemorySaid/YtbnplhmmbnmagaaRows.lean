/-
  No cell of these rows narrows 'for every input' (looked for: loops, veiled, ifaces, maps, wideKeys, modest, calm, conditions, laid).
  DERIVED. THE GIVEN ROWS OF THIS SEAT. 7 by the template 'for every input the law returns true; each argument reads behind the call as it read before'; 0 by the template 'total and deterministic' (their statements: YtbnplhmmbnmagaaTotals.lean).
  GIVEN WITH THE SEED: the statements are not yours to turn. If you find one false, say at which input.
  Laid BY PROGRAM, IN A SANDBOX (cutbox-rows.mjs): the forced cells as the released guide's own fill.sh prints them over the translation 6f9e740fb0507978… (all of the seat's roots in one cut). By AI agents, Wed Nov 11 2026. No macro, syntax, notation, axiom, sorry.
-/
import Derived.Test.YtbnplhmmbnmagaaChecked
import GoSem.Claim
import GoSem.ClaimJoined
import GoSem.ClaimMapViews
import Derived.JoinedTies
import Derived.KernelRfl
namespace Go.Proofs.Ytbnplhmmbnmagaa
/- THE CELL 'sum', in the pinned program and in every row, IS THE sha256 OF THE DUMP (.gsa) THAT YtbnplhmmbnmagaaProg.lean LOADS. Nothing in Lean hashes anything: it is a label: what it is worth is what the hold of that sum in a sandbox is worth. -/
noncomputable def Try.pinned : Pinned := { name := "ytbnplhmmbnmagaa", sum := "6f9e740fb05079787778903410cc96430c09b4ad066d4ffeecbbd44c02d96111", checked := Try.checked }
namespace Rows
def none {H : Type} : Left H := { results := [], args := [] }

/-- 'berthlaw21.AuditPrograms': WHATEVER THE INPUT: true; the input reads as it did. -/
def auditProgramsSpec : ChangeSpec := { name := "auditPrograms", fn := fun _ => fun
  | [d] => { results := [.lit (.bool true)], args := [d] }
  | _ => none }
def auditProgramsRow : OpenClaim := { program := "ytbnplhmmbnmagaa", sum := "6f9e740fb05079787778903410cc96430c09b4ad066d4ffeecbbd44c02d96111", func := "berth/berthlaw21.AuditPrograms", spec := "auditPrograms", inPlace := ["internal/bytealg.IndexByteString"], unfollowed := true, recurses := true, apart := false }
def AuditProgramsSaid : Prop := auditProgramsRow.holds Try.pinned (OpenSpec.ofChange auditProgramsSpec)

/-- ITS FALSE NEIGHBOUR: 'it returns false'. Refute it at one input. -/
def auditProgramsWrong : ChangeSpec := { name := "auditPrograms", fn := fun _ => fun
  | [d] => { results := [.lit (.bool false)], args := [d] }
  | _ => none }
def AuditProgramsWrongFalsely : Prop := auditProgramsRow.holds Try.pinned (OpenSpec.ofChange auditProgramsWrong)

/-- 'berthlaw21.AuditBytes': WHATEVER THE INPUT: true; the input reads as it did. -/
def auditBytesSpec : ChangeSpec := { name := "auditBytes", fn := fun _ => fun
  | [d] => { results := [.lit (.bool true)], args := [d] }
  | _ => none }
def auditBytesRow : OpenClaim := { program := "ytbnplhmmbnmagaa", sum := "6f9e740fb05079787778903410cc96430c09b4ad066d4ffeecbbd44c02d96111", func := "berth/berthlaw21.AuditBytes", spec := "auditBytes", inPlace := ["internal/bytealg.IndexByteString"], unfollowed := true, recurses := true, apart := false }
def AuditBytesSaid : Prop := auditBytesRow.holds Try.pinned (OpenSpec.ofChange auditBytesSpec)

/-- ITS FALSE NEIGHBOUR: 'it returns false'. Refute it at one input. -/
def auditBytesWrong : ChangeSpec := { name := "auditBytes", fn := fun _ => fun
  | [d] => { results := [.lit (.bool false)], args := [d] }
  | _ => none }
def AuditBytesWrongFalsely : Prop := auditBytesRow.holds Try.pinned (OpenSpec.ofChange auditBytesWrong)

/-- 'berthlaw21.AuditRuns': WHATEVER THE INPUT: true; the input reads as it did. -/
def auditRunsSpec : ChangeSpec := { name := "auditRuns", fn := fun _ => fun
  | [d1, d2] => { results := [.lit (.bool true)], args := [d1, d2] }
  | _ => none }
def auditRunsRow : OpenClaim := { program := "ytbnplhmmbnmagaa", sum := "6f9e740fb05079787778903410cc96430c09b4ad066d4ffeecbbd44c02d96111", func := "berth/berthlaw21.AuditRuns", spec := "auditRuns", inPlace := ["internal/bytealg.IndexByteString"], unfollowed := true, recurses := true, apart := false }
def AuditRunsSaid : Prop := auditRunsRow.holds Try.pinned (OpenSpec.ofChange auditRunsSpec)

/-- ITS FALSE NEIGHBOUR: 'it returns false'. Refute it at one input. -/
def auditRunsWrong : ChangeSpec := { name := "auditRuns", fn := fun _ => fun
  | [d1, d2] => { results := [.lit (.bool false)], args := [d1, d2] }
  | _ => none }
def AuditRunsWrongFalsely : Prop := auditRunsRow.holds Try.pinned (OpenSpec.ofChange auditRunsWrong)

/-- 'berthlaw21.AuditWider': WHATEVER THE INPUT: true; the input reads as it did. -/
def auditWiderSpec : ChangeSpec := { name := "auditWider", fn := fun _ => fun
  | [d1, d2, d3] => { results := [.lit (.bool true)], args := [d1, d2, d3] }
  | _ => none }
def auditWiderRow : OpenClaim := { program := "ytbnplhmmbnmagaa", sum := "6f9e740fb05079787778903410cc96430c09b4ad066d4ffeecbbd44c02d96111", func := "berth/berthlaw21.AuditWider", spec := "auditWider", inPlace := ["internal/bytealg.IndexByteString"], unfollowed := true, recurses := true, apart := false }
def AuditWiderSaid : Prop := auditWiderRow.holds Try.pinned (OpenSpec.ofChange auditWiderSpec)

/-- ITS FALSE NEIGHBOUR: 'it returns false'. Refute it at one input. -/
def auditWiderWrong : ChangeSpec := { name := "auditWider", fn := fun _ => fun
  | [d1, d2, d3] => { results := [.lit (.bool false)], args := [d1, d2, d3] }
  | _ => none }
def AuditWiderWrongFalsely : Prop := auditWiderRow.holds Try.pinned (OpenSpec.ofChange auditWiderWrong)

/-- 'berthlaw21.AuditPools': WHATEVER THE INPUT: true; the input reads as it did. -/
def auditPoolsSpec : ChangeSpec := { name := "auditPools", fn := fun _ => fun
  | [d1, d2, d3] => { results := [.lit (.bool true)], args := [d1, d2, d3] }
  | _ => none }
def auditPoolsRow : OpenClaim := { program := "ytbnplhmmbnmagaa", sum := "6f9e740fb05079787778903410cc96430c09b4ad066d4ffeecbbd44c02d96111", func := "berth/berthlaw21.AuditPools", spec := "auditPools", inPlace := ["internal/bytealg.IndexByteString"], unfollowed := true, recurses := true, apart := false }
def AuditPoolsSaid : Prop := auditPoolsRow.holds Try.pinned (OpenSpec.ofChange auditPoolsSpec)

/-- ITS FALSE NEIGHBOUR: 'it returns false'. Refute it at one input. -/
def auditPoolsWrong : ChangeSpec := { name := "auditPools", fn := fun _ => fun
  | [d1, d2, d3] => { results := [.lit (.bool false)], args := [d1, d2, d3] }
  | _ => none }
def AuditPoolsWrongFalsely : Prop := auditPoolsRow.holds Try.pinned (OpenSpec.ofChange auditPoolsWrong)

/-- 'berthlaw21.AuditMemory': WHATEVER THE INPUT: true; the input reads as it did. -/
def auditMemorySpec : ChangeSpec := { name := "auditMemory", fn := fun _ => fun
  | [d1, d2] => { results := [.lit (.bool true)], args := [d1, d2] }
  | _ => none }
def auditMemoryRow : OpenClaim := { program := "ytbnplhmmbnmagaa", sum := "6f9e740fb05079787778903410cc96430c09b4ad066d4ffeecbbd44c02d96111", func := "berth/berthlaw21.AuditMemory", spec := "auditMemory", inPlace := ["internal/bytealg.IndexByteString"], unfollowed := true, recurses := true, apart := false }
def AuditMemorySaid : Prop := auditMemoryRow.holds Try.pinned (OpenSpec.ofChange auditMemorySpec)

/-- ITS FALSE NEIGHBOUR: 'it returns false'. Refute it at one input. -/
def auditMemoryWrong : ChangeSpec := { name := "auditMemory", fn := fun _ => fun
  | [d1, d2] => { results := [.lit (.bool false)], args := [d1, d2] }
  | _ => none }
def AuditMemoryWrongFalsely : Prop := auditMemoryRow.holds Try.pinned (OpenSpec.ofChange auditMemoryWrong)

/-- 'berthlaw21.AuditAgrees': WHATEVER THE INPUT: true; the input reads as it did. -/
def auditAgreesSpec : ChangeSpec := { name := "auditAgrees", fn := fun _ => fun
  | [d1, d2] => { results := [.lit (.bool true)], args := [d1, d2] }
  | _ => none }
def auditAgreesRow : OpenClaim := { program := "ytbnplhmmbnmagaa", sum := "6f9e740fb05079787778903410cc96430c09b4ad066d4ffeecbbd44c02d96111", func := "berth/berthlaw21.AuditAgrees", spec := "auditAgrees", inPlace := ["internal/bytealg.IndexByteString"], unfollowed := true, recurses := true, apart := false }
def AuditAgreesSaid : Prop := auditAgreesRow.holds Try.pinned (OpenSpec.ofChange auditAgreesSpec)

/-- ITS FALSE NEIGHBOUR: 'it returns false'. Refute it at one input. -/
def auditAgreesWrong : ChangeSpec := { name := "auditAgrees", fn := fun _ => fun
  | [d1, d2] => { results := [.lit (.bool false)], args := [d1, d2] }
  | _ => none }
def AuditAgreesWrongFalsely : Prop := auditAgreesRow.holds Try.pinned (OpenSpec.ofChange auditAgreesWrong)

/- THE SECOND FORM. 'bulk': how many values and letters a reading holds, each counted each time it is reached (what is shared counts as often as it is met; a slice's spare places count too). A statement '..UptoSaid' is the law's where the arguments, and the package variables that the reading takes, are together of bulk at most 1048576: NARROWER than '..Said'. Prove '..Said' where nothing that the law and all that it calls make is longer than what came in: it says more and counts as full. Else prove '..UptoSaid'. A law counts once. -/
mutual
def uptoBulk {H : Type} : DataW H → Nat
  | .lit (.string bytes) => bytes.length + 1
  | .lit _ => 1
  | .nil => 1
  | .ptr d => uptoBulk d + 1
  | .slice elems spare => uptoBulkAll elems + uptoBulkAll spare + 1
  | .agg parts => uptoBulkAll parts + 1
  | .iface _ d => uptoBulk d + 1
  | .map entries => uptoBulkEntries entries + 1
  | .held _ => 1
def uptoBulkAll {H : Type} : List (DataW H) → Nat
  | [] => 0
  | d :: r => uptoBulk d + uptoBulkAll r
def uptoBulkEntries {H : Type} : List (Lit × DataW H) → Nat
  | [] => 0
  | x :: r => uptoBulkEntry x + uptoBulkEntries r
def uptoBulkEntry {H : Type} : Lit × DataW H → Nat
  | (.string bytes, d) => bytes.length + uptoBulk d + 1
  | (_, d) => uptoBulk d + 1
 end
def uptoSmall : (H : Type) → List (DataW H) → Bool := fun _ ds => decide (uptoBulkAll ds ≤ 1048576)
def OpenSpec.upto (s : _root_.Go.ChangeSpec) : _root_.Go.OpenSpec := { _root_.Go.OpenSpec.ofChange s with cond := some uptoSmall }

/-- 'berthlaw21.AuditPrograms', WHERE WHAT IT READS IS OF BULK AT MOST 1048576: true; the input reads as it did. -/
def auditProgramsUptoRow : OpenClaim := { program := "ytbnplhmmbnmagaa", sum := "6f9e740fb05079787778903410cc96430c09b4ad066d4ffeecbbd44c02d96111", func := "berth/berthlaw21.AuditPrograms", spec := "auditPrograms", inPlace := ["internal/bytealg.IndexByteString"], unfollowed := true, recurses := true, apart := false, narrowed := true }
def AuditProgramsUptoSaid : Prop := auditProgramsUptoRow.holds Try.pinned (OpenSpec.upto auditProgramsSpec)

/-- 'berthlaw21.AuditBytes', WHERE WHAT IT READS IS OF BULK AT MOST 1048576: true; the input reads as it did. -/
def auditBytesUptoRow : OpenClaim := { program := "ytbnplhmmbnmagaa", sum := "6f9e740fb05079787778903410cc96430c09b4ad066d4ffeecbbd44c02d96111", func := "berth/berthlaw21.AuditBytes", spec := "auditBytes", inPlace := ["internal/bytealg.IndexByteString"], unfollowed := true, recurses := true, apart := false, narrowed := true }
def AuditBytesUptoSaid : Prop := auditBytesUptoRow.holds Try.pinned (OpenSpec.upto auditBytesSpec)

/-- 'berthlaw21.AuditRuns', WHERE WHAT IT READS IS OF BULK AT MOST 1048576: true; the input reads as it did. -/
def auditRunsUptoRow : OpenClaim := { program := "ytbnplhmmbnmagaa", sum := "6f9e740fb05079787778903410cc96430c09b4ad066d4ffeecbbd44c02d96111", func := "berth/berthlaw21.AuditRuns", spec := "auditRuns", inPlace := ["internal/bytealg.IndexByteString"], unfollowed := true, recurses := true, apart := false, narrowed := true }
def AuditRunsUptoSaid : Prop := auditRunsUptoRow.holds Try.pinned (OpenSpec.upto auditRunsSpec)

/-- 'berthlaw21.AuditWider', WHERE WHAT IT READS IS OF BULK AT MOST 1048576: true; the input reads as it did. -/
def auditWiderUptoRow : OpenClaim := { program := "ytbnplhmmbnmagaa", sum := "6f9e740fb05079787778903410cc96430c09b4ad066d4ffeecbbd44c02d96111", func := "berth/berthlaw21.AuditWider", spec := "auditWider", inPlace := ["internal/bytealg.IndexByteString"], unfollowed := true, recurses := true, apart := false, narrowed := true }
def AuditWiderUptoSaid : Prop := auditWiderUptoRow.holds Try.pinned (OpenSpec.upto auditWiderSpec)

/-- 'berthlaw21.AuditPools', WHERE WHAT IT READS IS OF BULK AT MOST 1048576: true; the input reads as it did. -/
def auditPoolsUptoRow : OpenClaim := { program := "ytbnplhmmbnmagaa", sum := "6f9e740fb05079787778903410cc96430c09b4ad066d4ffeecbbd44c02d96111", func := "berth/berthlaw21.AuditPools", spec := "auditPools", inPlace := ["internal/bytealg.IndexByteString"], unfollowed := true, recurses := true, apart := false, narrowed := true }
def AuditPoolsUptoSaid : Prop := auditPoolsUptoRow.holds Try.pinned (OpenSpec.upto auditPoolsSpec)

/-- 'berthlaw21.AuditMemory', WHERE WHAT IT READS IS OF BULK AT MOST 1048576: true; the input reads as it did. -/
def auditMemoryUptoRow : OpenClaim := { program := "ytbnplhmmbnmagaa", sum := "6f9e740fb05079787778903410cc96430c09b4ad066d4ffeecbbd44c02d96111", func := "berth/berthlaw21.AuditMemory", spec := "auditMemory", inPlace := ["internal/bytealg.IndexByteString"], unfollowed := true, recurses := true, apart := false, narrowed := true }
def AuditMemoryUptoSaid : Prop := auditMemoryUptoRow.holds Try.pinned (OpenSpec.upto auditMemorySpec)

/-- 'berthlaw21.AuditAgrees', WHERE WHAT IT READS IS OF BULK AT MOST 1048576: true; the input reads as it did. -/
def auditAgreesUptoRow : OpenClaim := { program := "ytbnplhmmbnmagaa", sum := "6f9e740fb05079787778903410cc96430c09b4ad066d4ffeecbbd44c02d96111", func := "berth/berthlaw21.AuditAgrees", spec := "auditAgrees", inPlace := ["internal/bytealg.IndexByteString"], unfollowed := true, recurses := true, apart := false, narrowed := true }
def AuditAgreesUptoSaid : Prop := auditAgreesUptoRow.holds Try.pinned (OpenSpec.upto auditAgreesSpec)

end Rows
end Go.Proofs.Ytbnplhmmbnmagaa
