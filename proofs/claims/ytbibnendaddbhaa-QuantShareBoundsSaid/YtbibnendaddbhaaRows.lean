/-
  No cell of these rows narrows 'for every input' (looked for: loops, veiled, ifaces, maps, wideKeys, modest, calm, conditions, laid).
  DERIVED. THE GIVEN ROWS OF THIS SEAT. 6 by the template 'for every input the law returns true; each argument reads behind the call as it read before'; 0 by the template 'total and deterministic' (their statements: YtbibnendaddbhaaTotals.lean).
  GIVEN WITH THE SEED: the statements are not yours to turn. If you find one false, say at which input.
  Laid BY PROGRAM, IN A SANDBOX (cutbox-rows.mjs): the forced cells as the released guide's own fill.sh prints them over the translation 26c97f12aff5f61b… (all of the seat's roots in one cut). By AI agents, Wed Nov 11 2026. No macro, syntax, notation, axiom, sorry.
-/
import Derived.Test.YtbibnendaddbhaaChecked
import GoSem.Claim
import GoSem.ClaimJoined
import GoSem.ClaimMapViews
import Derived.JoinedTies
import Derived.KernelRfl
namespace Go.Proofs.Ytbibnendaddbhaa
/- THE CELL 'sum', in the pinned program and in every row, IS THE sha256 OF THE DUMP (.gsa) THAT YtbibnendaddbhaaProg.lean LOADS. Nothing in Lean hashes anything: it is a label: what it is worth is what the hold of that sum in a sandbox is worth. -/
noncomputable def Try.pinned : Pinned := { name := "ytbibnendaddbhaa", sum := "26c97f12aff5f61b81299632d67925c0ed24a1c1522557c6f8d8054a27b3e62b", checked := Try.checked }
namespace Rows
def none {H : Type} : Left H := { results := [], args := [] }

/-- 'berthlaw02.QuantNames': WHATEVER THE INPUT: true; the input reads as it did. -/
def quantNamesSpec : ChangeSpec := { name := "quantNames", fn := fun _ => fun
  | [] => { results := [.lit (.bool true)], args := [] }
  | _ => none }
def quantNamesRow : OpenClaim := { program := "ytbibnendaddbhaa", sum := "26c97f12aff5f61b81299632d67925c0ed24a1c1522557c6f8d8054a27b3e62b", func := "berth/berthlaw02.QuantNames", spec := "quantNames", apart := false }
def QuantNamesSaid : Prop := quantNamesRow.holds Try.pinned (OpenSpec.ofChange quantNamesSpec)

/-- ITS FALSE NEIGHBOUR: 'it returns false'. Refute it at one input. -/
def quantNamesWrong : ChangeSpec := { name := "quantNames", fn := fun _ => fun
  | [] => { results := [.lit (.bool false)], args := [] }
  | _ => none }
def QuantNamesWrongFalsely : Prop := quantNamesRow.holds Try.pinned (OpenSpec.ofChange quantNamesWrong)

/-- 'berthlaw02.QuantRoom': WHATEVER THE INPUT: true; the input reads as it did. -/
def quantRoomSpec : ChangeSpec := { name := "quantRoom", fn := fun _ => fun
  | [d1, d2, d3] => { results := [.lit (.bool true)], args := [d1, d2, d3] }
  | _ => none }
def quantRoomRow : OpenClaim := { program := "ytbibnendaddbhaa", sum := "26c97f12aff5f61b81299632d67925c0ed24a1c1522557c6f8d8054a27b3e62b", func := "berth/berthlaw02.QuantRoom", spec := "quantRoom", apart := false }
def QuantRoomSaid : Prop := quantRoomRow.holds Try.pinned (OpenSpec.ofChange quantRoomSpec)

/-- ITS FALSE NEIGHBOUR: 'it returns false'. Refute it at one input. -/
def quantRoomWrong : ChangeSpec := { name := "quantRoom", fn := fun _ => fun
  | [d1, d2, d3] => { results := [.lit (.bool false)], args := [d1, d2, d3] }
  | _ => none }
def QuantRoomWrongFalsely : Prop := quantRoomRow.holds Try.pinned (OpenSpec.ofChange quantRoomWrong)

/-- 'berthlaw02.QuantShares': WHATEVER THE INPUT: true; the input reads as it did. -/
def quantSharesSpec : ChangeSpec := { name := "quantShares", fn := fun _ => fun
  | [d] => { results := [.lit (.bool true)], args := [d] }
  | _ => none }
def quantSharesRow : OpenClaim := { program := "ytbibnendaddbhaa", sum := "26c97f12aff5f61b81299632d67925c0ed24a1c1522557c6f8d8054a27b3e62b", func := "berth/berthlaw02.QuantShares", spec := "quantShares", named := ["math/bits.divideError", "math/bits.overflowError"], apart := false }
def QuantSharesSaid : Prop := quantSharesRow.holds Try.pinned (OpenSpec.ofChange quantSharesSpec)

/-- ITS FALSE NEIGHBOUR: 'it returns false'. Refute it at one input. -/
def quantSharesWrong : ChangeSpec := { name := "quantShares", fn := fun _ => fun
  | [d] => { results := [.lit (.bool false)], args := [d] }
  | _ => none }
def QuantSharesWrongFalsely : Prop := quantSharesRow.holds Try.pinned (OpenSpec.ofChange quantSharesWrong)

/-- 'berthlaw02.QuantShareBounds': WHATEVER THE INPUT: true; the input reads as it did. -/
def quantShareBoundsSpec : ChangeSpec := { name := "quantShareBounds", fn := fun _ => fun
  | [d1, d2, d3] => { results := [.lit (.bool true)], args := [d1, d2, d3] }
  | _ => none }
def quantShareBoundsRow : OpenClaim := { program := "ytbibnendaddbhaa", sum := "26c97f12aff5f61b81299632d67925c0ed24a1c1522557c6f8d8054a27b3e62b", func := "berth/berthlaw02.QuantShareBounds", spec := "quantShareBounds", named := ["math/bits.divideError", "math/bits.overflowError"], apart := false }
def QuantShareBoundsSaid : Prop := quantShareBoundsRow.holds Try.pinned (OpenSpec.ofChange quantShareBoundsSpec)

/-- ITS FALSE NEIGHBOUR: 'it returns false'. Refute it at one input. -/
def quantShareBoundsWrong : ChangeSpec := { name := "quantShareBounds", fn := fun _ => fun
  | [d1, d2, d3] => { results := [.lit (.bool false)], args := [d1, d2, d3] }
  | _ => none }
def QuantShareBoundsWrongFalsely : Prop := quantShareBoundsRow.holds Try.pinned (OpenSpec.ofChange quantShareBoundsWrong)

/-- 'berthlaw02.QuantAway': WHATEVER THE INPUT: true; the input reads as it did. -/
def quantAwaySpec : ChangeSpec := { name := "quantAway", fn := fun _ => fun
  | [d1, d2] => { results := [.lit (.bool true)], args := [d1, d2] }
  | _ => none }
def quantAwayRow : OpenClaim := { program := "ytbibnendaddbhaa", sum := "26c97f12aff5f61b81299632d67925c0ed24a1c1522557c6f8d8054a27b3e62b", func := "berth/berthlaw02.QuantAway", spec := "quantAway", apart := false }
def QuantAwaySaid : Prop := quantAwayRow.holds Try.pinned (OpenSpec.ofChange quantAwaySpec)

/-- ITS FALSE NEIGHBOUR: 'it returns false'. Refute it at one input. -/
def quantAwayWrong : ChangeSpec := { name := "quantAway", fn := fun _ => fun
  | [d1, d2] => { results := [.lit (.bool false)], args := [d1, d2] }
  | _ => none }
def QuantAwayWrongFalsely : Prop := quantAwayRow.holds Try.pinned (OpenSpec.ofChange quantAwayWrong)

/-- 'berthlaw02.QuantSums': WHATEVER THE INPUT: true; the input reads as it did. -/
def quantSumsSpec : ChangeSpec := { name := "quantSums", fn := fun _ => fun
  | [d] => { results := [.lit (.bool true)], args := [d] }
  | _ => none }
def quantSumsRow : OpenClaim := { program := "ytbibnendaddbhaa", sum := "26c97f12aff5f61b81299632d67925c0ed24a1c1522557c6f8d8054a27b3e62b", func := "berth/berthlaw02.QuantSums", spec := "quantSums", apart := false }
def QuantSumsSaid : Prop := quantSumsRow.holds Try.pinned (OpenSpec.ofChange quantSumsSpec)

/-- ITS FALSE NEIGHBOUR: 'it returns false'. Refute it at one input. -/
def quantSumsWrong : ChangeSpec := { name := "quantSums", fn := fun _ => fun
  | [d] => { results := [.lit (.bool false)], args := [d] }
  | _ => none }
def QuantSumsWrongFalsely : Prop := quantSumsRow.holds Try.pinned (OpenSpec.ofChange quantSumsWrong)

/- THE SECOND FORM. 'bulk': how many values and letters a reading holds, each counted each time it is reached (what is shared counts as often as it is met; a slice's spare places count too). A statement '..UptoSaid' is the law's where the arguments, and the package variables that the reading takes, are together of bulk at most 1048576: NARROWER than '..Said'. Prove '..Said' where nothing that the law and all that it calls make is longer than what came in: it says more and counts as full. Else prove '..UptoSaid'. A law counts once. -/
mutual
def uptoBulk {H : Type} : DataW H → Nat
  | .lit (.string bytes) => bytes.length + 1
  | .lit _ => 1
  | .nil => 1
  | .ptr d => uptoBulk d + 1
  | .slice elems spare => uptoBulkAll elems + uptoBulkAll spare + 1
  | .agg parts => uptoBulkAll parts + 1
  | .iface _ d => uptoBulk d + 1
  | .map entries => uptoBulkEntries entries + 1
  | .held _ => 1
def uptoBulkAll {H : Type} : List (DataW H) → Nat
  | [] => 0
  | d :: r => uptoBulk d + uptoBulkAll r
def uptoBulkEntries {H : Type} : List (Lit × DataW H) → Nat
  | [] => 0
  | x :: r => uptoBulkEntry x + uptoBulkEntries r
def uptoBulkEntry {H : Type} : Lit × DataW H → Nat
  | (.string bytes, d) => bytes.length + uptoBulk d + 1
  | (_, d) => uptoBulk d + 1
 end
def uptoSmall : (H : Type) → List (DataW H) → Bool := fun _ ds => decide (uptoBulkAll ds ≤ 1048576)
def OpenSpec.upto (s : _root_.Go.ChangeSpec) : _root_.Go.OpenSpec := { _root_.Go.OpenSpec.ofChange s with cond := some uptoSmall }

/-- 'berthlaw02.QuantNames', WHERE WHAT IT READS IS OF BULK AT MOST 1048576: true; the input reads as it did. -/
def quantNamesUptoRow : OpenClaim := { program := "ytbibnendaddbhaa", sum := "26c97f12aff5f61b81299632d67925c0ed24a1c1522557c6f8d8054a27b3e62b", func := "berth/berthlaw02.QuantNames", spec := "quantNames", apart := false, narrowed := true }
def QuantNamesUptoSaid : Prop := quantNamesUptoRow.holds Try.pinned (OpenSpec.upto quantNamesSpec)

/-- 'berthlaw02.QuantRoom', WHERE WHAT IT READS IS OF BULK AT MOST 1048576: true; the input reads as it did. -/
def quantRoomUptoRow : OpenClaim := { program := "ytbibnendaddbhaa", sum := "26c97f12aff5f61b81299632d67925c0ed24a1c1522557c6f8d8054a27b3e62b", func := "berth/berthlaw02.QuantRoom", spec := "quantRoom", apart := false, narrowed := true }
def QuantRoomUptoSaid : Prop := quantRoomUptoRow.holds Try.pinned (OpenSpec.upto quantRoomSpec)

/-- 'berthlaw02.QuantShares', WHERE WHAT IT READS IS OF BULK AT MOST 1048576: true; the input reads as it did. -/
def quantSharesUptoRow : OpenClaim := { program := "ytbibnendaddbhaa", sum := "26c97f12aff5f61b81299632d67925c0ed24a1c1522557c6f8d8054a27b3e62b", func := "berth/berthlaw02.QuantShares", spec := "quantShares", named := ["math/bits.divideError", "math/bits.overflowError"], apart := false, narrowed := true }
def QuantSharesUptoSaid : Prop := quantSharesUptoRow.holds Try.pinned (OpenSpec.upto quantSharesSpec)

/-- 'berthlaw02.QuantShareBounds', WHERE WHAT IT READS IS OF BULK AT MOST 1048576: true; the input reads as it did. -/
def quantShareBoundsUptoRow : OpenClaim := { program := "ytbibnendaddbhaa", sum := "26c97f12aff5f61b81299632d67925c0ed24a1c1522557c6f8d8054a27b3e62b", func := "berth/berthlaw02.QuantShareBounds", spec := "quantShareBounds", named := ["math/bits.divideError", "math/bits.overflowError"], apart := false, narrowed := true }
def QuantShareBoundsUptoSaid : Prop := quantShareBoundsUptoRow.holds Try.pinned (OpenSpec.upto quantShareBoundsSpec)

/-- 'berthlaw02.QuantAway', WHERE WHAT IT READS IS OF BULK AT MOST 1048576: true; the input reads as it did. -/
def quantAwayUptoRow : OpenClaim := { program := "ytbibnendaddbhaa", sum := "26c97f12aff5f61b81299632d67925c0ed24a1c1522557c6f8d8054a27b3e62b", func := "berth/berthlaw02.QuantAway", spec := "quantAway", apart := false, narrowed := true }
def QuantAwayUptoSaid : Prop := quantAwayUptoRow.holds Try.pinned (OpenSpec.upto quantAwaySpec)

/-- 'berthlaw02.QuantSums', WHERE WHAT IT READS IS OF BULK AT MOST 1048576: true; the input reads as it did. -/
def quantSumsUptoRow : OpenClaim := { program := "ytbibnendaddbhaa", sum := "26c97f12aff5f61b81299632d67925c0ed24a1c1522557c6f8d8054a27b3e62b", func := "berth/berthlaw02.QuantSums", spec := "quantSums", apart := false, narrowed := true }
def QuantSumsUptoSaid : Prop := quantSumsUptoRow.holds Try.pinned (OpenSpec.upto quantSumsSpec)

end Rows
end Go.Proofs.Ytbibnendaddbhaa
