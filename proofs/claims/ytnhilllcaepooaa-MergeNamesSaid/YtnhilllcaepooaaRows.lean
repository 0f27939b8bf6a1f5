/-
  No cell of these rows narrows 'for every input' (looked for: loops, veiled, ifaces, maps, wideKeys, modest, calm, conditions, laid).
  DERIVED. THE GIVEN ROWS OF THIS SEAT. 6 by the template 'for every input the law returns true; each argument reads behind the call as it read before'; 0 by the template 'total and deterministic' (their statements: YtnhilllcaepooaaTotals.lean).
  GIVEN WITH THE SEED: the statements are not yours to turn. If you find one false, say at which input.
  Laid BY PROGRAM, IN A SANDBOX (cutbox-rows.mjs): the forced cells as the released guide's own fill.sh prints them over the translation bc17dfc891d0ecbc… (all of the seat's roots in one cut). By AI agents, Wed Nov 11 2026. No macro, syntax, notation, axiom, sorry.
-/
import Derived.Test.YtnhilllcaepooaaChecked
import GoSem.Claim
import GoSem.ClaimJoined
import GoSem.ClaimMapViews
import Derived.JoinedTies
import Derived.KernelRfl
namespace Go.Proofs.Ytnhilllcaepooaa
/- THE CELL 'sum', in the pinned program and in every row, IS THE sha256 OF THE DUMP (.gsa) THAT YtnhilllcaepooaaProg.lean LOADS. Nothing in Lean hashes anything: it is a label: what it is worth is what the hold of that sum in a sandbox is worth. -/
noncomputable def Try.pinned : Pinned := { name := "ytnhilllcaepooaa", sum := "bc17dfc891d0ecbc2f8d69643114aece3c3bbb6473e1909ceda3c1f9491d9b97", checked := Try.checked }
namespace Rows
def none {H : Type} : Left H := { results := [], args := [] }

/-- 'berthlaw14.SortsNames': WHATEVER THE INPUT: true; the input reads as it did. -/
def sortsNamesSpec : ChangeSpec := { name := "sortsNames", fn := fun _ => fun
  | [] => { results := [.lit (.bool true)], args := [] }
  | _ => none }
def sortsNamesRow : OpenClaim := { program := "ytnhilllcaepooaa", sum := "bc17dfc891d0ecbc2f8d69643114aece3c3bbb6473e1909ceda3c1f9491d9b97", func := "berth/berthlaw14.SortsNames", spec := "sortsNames", apart := false }
def SortsNamesSaid : Prop := sortsNamesRow.holds Try.pinned (OpenSpec.ofChange sortsNamesSpec)

/-- ITS FALSE NEIGHBOUR: 'it returns false'. Refute it at one input. -/
def sortsNamesWrong : ChangeSpec := { name := "sortsNames", fn := fun _ => fun
  | [] => { results := [.lit (.bool false)], args := [] }
  | _ => none }
def SortsNamesWrongFalsely : Prop := sortsNamesRow.holds Try.pinned (OpenSpec.ofChange sortsNamesWrong)

/-- 'berthlaw17.MergeNames': WHATEVER THE INPUT: true; the input reads as it did. -/
def mergeNamesSpec : ChangeSpec := { name := "mergeNames", fn := fun _ => fun
  | [] => { results := [.lit (.bool true)], args := [] }
  | _ => none }
def mergeNamesRow : OpenClaim := { program := "ytnhilllcaepooaa", sum := "bc17dfc891d0ecbc2f8d69643114aece3c3bbb6473e1909ceda3c1f9491d9b97", func := "berth/berthlaw17.MergeNames", spec := "mergeNames", apart := false }
def MergeNamesSaid : Prop := mergeNamesRow.holds Try.pinned (OpenSpec.ofChange mergeNamesSpec)

/-- ITS FALSE NEIGHBOUR: 'it returns false'. Refute it at one input. -/
def mergeNamesWrong : ChangeSpec := { name := "mergeNames", fn := fun _ => fun
  | [] => { results := [.lit (.bool false)], args := [] }
  | _ => none }
def MergeNamesWrongFalsely : Prop := mergeNamesRow.holds Try.pinned (OpenSpec.ofChange mergeNamesWrong)

/-- 'berthlaw18.ShareNames': WHATEVER THE INPUT: true; the input reads as it did. -/
def shareNamesSpec : ChangeSpec := { name := "shareNames", fn := fun _ => fun
  | [] => { results := [.lit (.bool true)], args := [] }
  | _ => none }
def shareNamesRow : OpenClaim := { program := "ytnhilllcaepooaa", sum := "bc17dfc891d0ecbc2f8d69643114aece3c3bbb6473e1909ceda3c1f9491d9b97", func := "berth/berthlaw18.ShareNames", spec := "shareNames", apart := false }
def ShareNamesSaid : Prop := shareNamesRow.holds Try.pinned (OpenSpec.ofChange shareNamesSpec)

/-- ITS FALSE NEIGHBOUR: 'it returns false'. Refute it at one input. -/
def shareNamesWrong : ChangeSpec := { name := "shareNames", fn := fun _ => fun
  | [] => { results := [.lit (.bool false)], args := [] }
  | _ => none }
def ShareNamesWrongFalsely : Prop := shareNamesRow.holds Try.pinned (OpenSpec.ofChange shareNamesWrong)

/-- 'berthlaw19.GenNames': WHATEVER THE INPUT: true; the input reads as it did. -/
def genNamesSpec : ChangeSpec := { name := "genNames", fn := fun _ => fun
  | [] => { results := [.lit (.bool true)], args := [] }
  | _ => none }
def genNamesRow : OpenClaim := { program := "ytnhilllcaepooaa", sum := "bc17dfc891d0ecbc2f8d69643114aece3c3bbb6473e1909ceda3c1f9491d9b97", func := "berth/berthlaw19.GenNames", spec := "genNames", apart := false }
def GenNamesSaid : Prop := genNamesRow.holds Try.pinned (OpenSpec.ofChange genNamesSpec)

/-- ITS FALSE NEIGHBOUR: 'it returns false'. Refute it at one input. -/
def genNamesWrong : ChangeSpec := { name := "genNames", fn := fun _ => fun
  | [] => { results := [.lit (.bool false)], args := [] }
  | _ => none }
def GenNamesWrongFalsely : Prop := genNamesRow.holds Try.pinned (OpenSpec.ofChange genNamesWrong)

/-- 'berthlaw20.CodeNames': WHATEVER THE INPUT: true; the input reads as it did. -/
def codeNamesSpec : ChangeSpec := { name := "codeNames", fn := fun _ => fun
  | [] => { results := [.lit (.bool true)], args := [] }
  | _ => none }
def codeNamesRow : OpenClaim := { program := "ytnhilllcaepooaa", sum := "bc17dfc891d0ecbc2f8d69643114aece3c3bbb6473e1909ceda3c1f9491d9b97", func := "berth/berthlaw20.CodeNames", spec := "codeNames", apart := false }
def CodeNamesSaid : Prop := codeNamesRow.holds Try.pinned (OpenSpec.ofChange codeNamesSpec)

/-- ITS FALSE NEIGHBOUR: 'it returns false'. Refute it at one input. -/
def codeNamesWrong : ChangeSpec := { name := "codeNames", fn := fun _ => fun
  | [] => { results := [.lit (.bool false)], args := [] }
  | _ => none }
def CodeNamesWrongFalsely : Prop := codeNamesRow.holds Try.pinned (OpenSpec.ofChange codeNamesWrong)

/-- 'berthlaw21.AuditNames': WHATEVER THE INPUT: true; the input reads as it did. -/
def auditNamesSpec : ChangeSpec := { name := "auditNames", fn := fun _ => fun
  | [] => { results := [.lit (.bool true)], args := [] }
  | _ => none }
def auditNamesRow : OpenClaim := { program := "ytnhilllcaepooaa", sum := "bc17dfc891d0ecbc2f8d69643114aece3c3bbb6473e1909ceda3c1f9491d9b97", func := "berth/berthlaw21.AuditNames", spec := "auditNames", apart := false }
def AuditNamesSaid : Prop := auditNamesRow.holds Try.pinned (OpenSpec.ofChange auditNamesSpec)

/-- ITS FALSE NEIGHBOUR: 'it returns false'. Refute it at one input. -/
def auditNamesWrong : ChangeSpec := { name := "auditNames", fn := fun _ => fun
  | [] => { results := [.lit (.bool false)], args := [] }
  | _ => none }
def AuditNamesWrongFalsely : Prop := auditNamesRow.holds Try.pinned (OpenSpec.ofChange auditNamesWrong)

/- THE SECOND FORM. 'bulk': how many values and letters a reading holds, each counted each time it is reached (what is shared counts as often as it is met; a slice's spare places count too). A statement '..UptoSaid' is the law's where the arguments, and the package variables that the reading takes, are together of bulk at most 1048576: NARROWER than '..Said'. Prove '..Said' where nothing that the law and all that it calls make is longer than what came in: it says more and counts as full. Else prove '..UptoSaid'. A law counts once. -/
mutual
def uptoBulk {H : Type} : DataW H → Nat
  | .lit (.string bytes) => bytes.length + 1
  | .lit _ => 1
  | .nil => 1
  | .ptr d => uptoBulk d + 1
  | .slice elems spare => uptoBulkAll elems + uptoBulkAll spare + 1
  | .agg parts => uptoBulkAll parts + 1
  | .iface _ d => uptoBulk d + 1
  | .map entries => uptoBulkEntries entries + 1
  | .held _ => 1
def uptoBulkAll {H : Type} : List (DataW H) → Nat
  | [] => 0
  | d :: r => uptoBulk d + uptoBulkAll r
def uptoBulkEntries {H : Type} : List (Lit × DataW H) → Nat
  | [] => 0
  | x :: r => uptoBulkEntry x + uptoBulkEntries r
def uptoBulkEntry {H : Type} : Lit × DataW H → Nat
  | (.string bytes, d) => bytes.length + uptoBulk d + 1
  | (_, d) => uptoBulk d + 1
 end
def uptoSmall : (H : Type) → List (DataW H) → Bool := fun _ ds => decide (uptoBulkAll ds ≤ 1048576)
def OpenSpec.upto (s : _root_.Go.ChangeSpec) : _root_.Go.OpenSpec := { _root_.Go.OpenSpec.ofChange s with cond := some uptoSmall }

/-- 'berthlaw14.SortsNames', WHERE WHAT IT READS IS OF BULK AT MOST 1048576: true; the input reads as it did. -/
def sortsNamesUptoRow : OpenClaim := { program := "ytnhilllcaepooaa", sum := "bc17dfc891d0ecbc2f8d69643114aece3c3bbb6473e1909ceda3c1f9491d9b97", func := "berth/berthlaw14.SortsNames", spec := "sortsNames", apart := false, narrowed := true }
def SortsNamesUptoSaid : Prop := sortsNamesUptoRow.holds Try.pinned (OpenSpec.upto sortsNamesSpec)

/-- 'berthlaw17.MergeNames', WHERE WHAT IT READS IS OF BULK AT MOST 1048576: true; the input reads as it did. -/
def mergeNamesUptoRow : OpenClaim := { program := "ytnhilllcaepooaa", sum := "bc17dfc891d0ecbc2f8d69643114aece3c3bbb6473e1909ceda3c1f9491d9b97", func := "berth/berthlaw17.MergeNames", spec := "mergeNames", apart := false, narrowed := true }
def MergeNamesUptoSaid : Prop := mergeNamesUptoRow.holds Try.pinned (OpenSpec.upto mergeNamesSpec)

/-- 'berthlaw18.ShareNames', WHERE WHAT IT READS IS OF BULK AT MOST 1048576: true; the input reads as it did. -/
def shareNamesUptoRow : OpenClaim := { program := "ytnhilllcaepooaa", sum := "bc17dfc891d0ecbc2f8d69643114aece3c3bbb6473e1909ceda3c1f9491d9b97", func := "berth/berthlaw18.ShareNames", spec := "shareNames", apart := false, narrowed := true }
def ShareNamesUptoSaid : Prop := shareNamesUptoRow.holds Try.pinned (OpenSpec.upto shareNamesSpec)

/-- 'berthlaw19.GenNames', WHERE WHAT IT READS IS OF BULK AT MOST 1048576: true; the input reads as it did. -/
def genNamesUptoRow : OpenClaim := { program := "ytnhilllcaepooaa", sum := "bc17dfc891d0ecbc2f8d69643114aece3c3bbb6473e1909ceda3c1f9491d9b97", func := "berth/berthlaw19.GenNames", spec := "genNames", apart := false, narrowed := true }
def GenNamesUptoSaid : Prop := genNamesUptoRow.holds Try.pinned (OpenSpec.upto genNamesSpec)

/-- 'berthlaw20.CodeNames', WHERE WHAT IT READS IS OF BULK AT MOST 1048576: true; the input reads as it did. -/
def codeNamesUptoRow : OpenClaim := { program := "ytnhilllcaepooaa", sum := "bc17dfc891d0ecbc2f8d69643114aece3c3bbb6473e1909ceda3c1f9491d9b97", func := "berth/berthlaw20.CodeNames", spec := "codeNames", apart := false, narrowed := true }
def CodeNamesUptoSaid : Prop := codeNamesUptoRow.holds Try.pinned (OpenSpec.upto codeNamesSpec)

/-- 'berthlaw21.AuditNames', WHERE WHAT IT READS IS OF BULK AT MOST 1048576: true; the input reads as it did. -/
def auditNamesUptoRow : OpenClaim := { program := "ytnhilllcaepooaa", sum := "bc17dfc891d0ecbc2f8d69643114aece3c3bbb6473e1909ceda3c1f9491d9b97", func := "berth/berthlaw21.AuditNames", spec := "auditNames", apart := false, narrowed := true }
def AuditNamesUptoSaid : Prop := auditNamesUptoRow.holds Try.pinned (OpenSpec.upto auditNamesSpec)

end Rows
end Go.Proofs.Ytnhilllcaepooaa
