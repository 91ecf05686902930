/-
  No cell of these rows narrows 'for every input' (looked for: loops, veiled, ifaces, maps, wideKeys, modest, calm, conditions, laid).
  DERIVED. THE GIVEN ROWS OF THIS SEAT. 6 by the template 'for every input the law returns true; each argument reads behind the call as it read before'; 0 by the template 'total and deterministic' (their statements: YtbhladkbnleeoaaTotals.lean).
  GIVEN WITH THE SEED: the statements are not yours to turn. If you find one false, say at which input.
  Laid BY PROGRAM, IN A SANDBOX (cutbox-rows.mjs): the forced cells as the released guide's own fill.sh prints them over the translation 071a60954b0c18c2… (all of the seat's roots in one cut). By AI agents, Wed Nov 11 2026. No macro, syntax, notation, axiom, sorry.
-/
import Derived.Test.YtbhladkbnleeoaaChecked
import GoSem.Claim
import GoSem.ClaimJoined
import GoSem.ClaimMapViews
import Derived.JoinedTies
import Derived.KernelRfl
namespace Go.Proofs.Ytbhladkbnleeoaa
/- THE CELL 'sum', in the pinned program and in every row, IS THE sha256 OF THE DUMP (.gsa) THAT YtbhladkbnleeoaaProg.lean LOADS. Nothing in Lean hashes anything: it is a label: what it is worth is what the hold of that sum in a sandbox is worth. -/
noncomputable def Try.pinned : Pinned := { name := "ytbhladkbnleeoaa", sum := "071a60954b0c18c24e6324474a854217bca5bb9e5e09e423a16f6c0b8b8d0b30", checked := Try.checked }
namespace Rows
def none {H : Type} : Left H := { results := [], args := [] }

/-- 'replevinlaw13.BtreeHeight': WHATEVER THE INPUT: true; the input reads as it did. -/
def btreeHeightSpec : ChangeSpec := { name := "btreeHeight", fn := fun _ => fun
  | [d] => { results := [.lit (.bool true)], args := [d] }
  | _ => none }
def btreeHeightRow : OpenClaim := { program := "ytbhladkbnleeoaa", sum := "071a60954b0c18c24e6324474a854217bca5bb9e5e09e423a16f6c0b8b8d0b30", func := "replevin/replevinlaw13.BtreeHeight", spec := "btreeHeight", unfollowed := true, recurses := true, apart := false }
def BtreeHeightSaid : Prop := btreeHeightRow.holds Try.pinned (OpenSpec.ofChange btreeHeightSpec)

/-- ITS FALSE NEIGHBOUR: 'it returns false'. Refute it at one input. -/
def btreeHeightWrong : ChangeSpec := { name := "btreeHeight", fn := fun _ => fun
  | [d] => { results := [.lit (.bool false)], args := [d] }
  | _ => none }
def BtreeHeightWrongFalsely : Prop := btreeHeightRow.holds Try.pinned (OpenSpec.ofChange btreeHeightWrong)

/-- 'replevinlaw13.BtreeMaps': WHATEVER THE INPUT: true; the input reads as it did. -/
def btreeMapsSpec : ChangeSpec := { name := "btreeMaps", fn := fun _ => fun
  | [d] => { results := [.lit (.bool true)], args := [d] }
  | _ => none }
def btreeMapsRow : OpenClaim := { program := "ytbhladkbnleeoaa", sum := "071a60954b0c18c24e6324474a854217bca5bb9e5e09e423a16f6c0b8b8d0b30", func := "replevin/replevinlaw13.BtreeMaps", spec := "btreeMaps", unfollowed := true, recurses := true, apart := false }
def BtreeMapsSaid : Prop := btreeMapsRow.holds Try.pinned (OpenSpec.ofChange btreeMapsSpec)

/-- ITS FALSE NEIGHBOUR: 'it returns false'. Refute it at one input. -/
def btreeMapsWrong : ChangeSpec := { name := "btreeMaps", fn := fun _ => fun
  | [d] => { results := [.lit (.bool false)], args := [d] }
  | _ => none }
def BtreeMapsWrongFalsely : Prop := btreeMapsRow.holds Try.pinned (OpenSpec.ofChange btreeMapsWrong)

/-- 'replevinlaw13.BtreeLoads': WHATEVER THE INPUT: true; the input reads as it did. -/
def btreeLoadsSpec : ChangeSpec := { name := "btreeLoads", fn := fun _ => fun
  | [d1, d2] => { results := [.lit (.bool true)], args := [d1, d2] }
  | _ => none }
def btreeLoadsRow : OpenClaim := { program := "ytbhladkbnleeoaa", sum := "071a60954b0c18c24e6324474a854217bca5bb9e5e09e423a16f6c0b8b8d0b30", func := "replevin/replevinlaw13.BtreeLoads", spec := "btreeLoads", unfollowed := true, recurses := true, apart := false }
def BtreeLoadsSaid : Prop := btreeLoadsRow.holds Try.pinned (OpenSpec.ofChange btreeLoadsSpec)

/-- ITS FALSE NEIGHBOUR: 'it returns false'. Refute it at one input. -/
def btreeLoadsWrong : ChangeSpec := { name := "btreeLoads", fn := fun _ => fun
  | [d1, d2] => { results := [.lit (.bool false)], args := [d1, d2] }
  | _ => none }
def BtreeLoadsWrongFalsely : Prop := btreeLoadsRow.holds Try.pinned (OpenSpec.ofChange btreeLoadsWrong)

/-- 'replevinlaw13.BtreeCommitted': WHATEVER THE INPUT: true; the input reads as it did. -/
def btreeCommittedSpec : ChangeSpec := { name := "btreeCommitted", fn := fun _ => fun
  | [d1, d2] => { results := [.lit (.bool true)], args := [d1, d2] }
  | _ => none }
def btreeCommittedRow : OpenClaim := { program := "ytbhladkbnleeoaa", sum := "071a60954b0c18c24e6324474a854217bca5bb9e5e09e423a16f6c0b8b8d0b30", func := "replevin/replevinlaw13.BtreeCommitted", spec := "btreeCommitted", unfollowed := true, recurses := true, apart := false }
def BtreeCommittedSaid : Prop := btreeCommittedRow.holds Try.pinned (OpenSpec.ofChange btreeCommittedSpec)

/-- ITS FALSE NEIGHBOUR: 'it returns false'. Refute it at one input. -/
def btreeCommittedWrong : ChangeSpec := { name := "btreeCommitted", fn := fun _ => fun
  | [d1, d2] => { results := [.lit (.bool false)], args := [d1, d2] }
  | _ => none }
def BtreeCommittedWrongFalsely : Prop := btreeCommittedRow.holds Try.pinned (OpenSpec.ofChange btreeCommittedWrong)

/-- 'replevinlaw13.BtreeSpace': WHATEVER THE INPUT: true; the input reads as it did. -/
def btreeSpaceSpec : ChangeSpec := { name := "btreeSpace", fn := fun _ => fun
  | [d1, d2] => { results := [.lit (.bool true)], args := [d1, d2] }
  | _ => none }
def btreeSpaceRow : OpenClaim := { program := "ytbhladkbnleeoaa", sum := "071a60954b0c18c24e6324474a854217bca5bb9e5e09e423a16f6c0b8b8d0b30", func := "replevin/replevinlaw13.BtreeSpace", spec := "btreeSpace", unfollowed := true, recurses := true, apart := false }
def BtreeSpaceSaid : Prop := btreeSpaceRow.holds Try.pinned (OpenSpec.ofChange btreeSpaceSpec)

/-- ITS FALSE NEIGHBOUR: 'it returns false'. Refute it at one input. -/
def btreeSpaceWrong : ChangeSpec := { name := "btreeSpace", fn := fun _ => fun
  | [d1, d2] => { results := [.lit (.bool false)], args := [d1, d2] }
  | _ => none }
def BtreeSpaceWrongFalsely : Prop := btreeSpaceRow.holds Try.pinned (OpenSpec.ofChange btreeSpaceWrong)

/-- 'replevinlaw13.BtreeCrashes': WHATEVER THE INPUT: true; the input reads as it did. -/
def btreeCrashesSpec : ChangeSpec := { name := "btreeCrashes", fn := fun _ => fun
  | [d1, d2, d3] => { results := [.lit (.bool true)], args := [d1, d2, d3] }
  | _ => none }
def btreeCrashesRow : OpenClaim := { program := "ytbhladkbnleeoaa", sum := "071a60954b0c18c24e6324474a854217bca5bb9e5e09e423a16f6c0b8b8d0b30", func := "replevin/replevinlaw13.BtreeCrashes", spec := "btreeCrashes", unfollowed := true, recurses := true, apart := false }
def BtreeCrashesSaid : Prop := btreeCrashesRow.holds Try.pinned (OpenSpec.ofChange btreeCrashesSpec)

/-- ITS FALSE NEIGHBOUR: 'it returns false'. Refute it at one input. -/
def btreeCrashesWrong : ChangeSpec := { name := "btreeCrashes", fn := fun _ => fun
  | [d1, d2, d3] => { results := [.lit (.bool false)], args := [d1, d2, d3] }
  | _ => none }
def BtreeCrashesWrongFalsely : Prop := btreeCrashesRow.holds Try.pinned (OpenSpec.ofChange btreeCrashesWrong)

/- THE SECOND FORM. 'bulk': how many values and letters a reading holds, each counted each time it is reached (what is shared counts as often as it is met; a slice's spare places count too). A statement '..UptoSaid' is the law's where the arguments, and the package variables that the reading takes, are together of bulk at most 1048576: NARROWER than '..Said'. Prove '..Said' where nothing that the law and all that it calls make is longer than what came in: it says more and counts as full. Else prove '..UptoSaid'. A law counts once. -/
mutual
def uptoBulk {H : Type} : DataW H → Nat
  | .lit (.string bytes) => bytes.length + 1
  | .lit _ => 1
  | .nil => 1
  | .ptr d => uptoBulk d + 1
  | .slice elems spare => uptoBulkAll elems + uptoBulkAll spare + 1
  | .agg parts => uptoBulkAll parts + 1
  | .iface _ d => uptoBulk d + 1
  | .map entries => uptoBulkEntries entries + 1
  | .held _ => 1
def uptoBulkAll {H : Type} : List (DataW H) → Nat
  | [] => 0
  | d :: r => uptoBulk d + uptoBulkAll r
def uptoBulkEntries {H : Type} : List (Lit × DataW H) → Nat
  | [] => 0
  | x :: r => uptoBulkEntry x + uptoBulkEntries r
def uptoBulkEntry {H : Type} : Lit × DataW H → Nat
  | (.string bytes, d) => bytes.length + uptoBulk d + 1
  | (_, d) => uptoBulk d + 1
 end
def uptoSmall : (H : Type) → List (DataW H) → Bool := fun _ ds => decide (uptoBulkAll ds ≤ 1048576)
def OpenSpec.upto (s : _root_.Go.ChangeSpec) : _root_.Go.OpenSpec := { _root_.Go.OpenSpec.ofChange s with cond := some uptoSmall }

/-- 'replevinlaw13.BtreeHeight', WHERE WHAT IT READS IS OF BULK AT MOST 1048576: true; the input reads as it did. -/
def btreeHeightUptoRow : OpenClaim := { program := "ytbhladkbnleeoaa", sum := "071a60954b0c18c24e6324474a854217bca5bb9e5e09e423a16f6c0b8b8d0b30", func := "replevin/replevinlaw13.BtreeHeight", spec := "btreeHeight", unfollowed := true, recurses := true, apart := false, narrowed := true }
def BtreeHeightUptoSaid : Prop := btreeHeightUptoRow.holds Try.pinned (OpenSpec.upto btreeHeightSpec)

/-- 'replevinlaw13.BtreeMaps', WHERE WHAT IT READS IS OF BULK AT MOST 1048576: true; the input reads as it did. -/
def btreeMapsUptoRow : OpenClaim := { program := "ytbhladkbnleeoaa", sum := "071a60954b0c18c24e6324474a854217bca5bb9e5e09e423a16f6c0b8b8d0b30", func := "replevin/replevinlaw13.BtreeMaps", spec := "btreeMaps", unfollowed := true, recurses := true, apart := false, narrowed := true }
def BtreeMapsUptoSaid : Prop := btreeMapsUptoRow.holds Try.pinned (OpenSpec.upto btreeMapsSpec)

/-- 'replevinlaw13.BtreeLoads', WHERE WHAT IT READS IS OF BULK AT MOST 1048576: true; the input reads as it did. -/
def btreeLoadsUptoRow : OpenClaim := { program := "ytbhladkbnleeoaa", sum := "071a60954b0c18c24e6324474a854217bca5bb9e5e09e423a16f6c0b8b8d0b30", func := "replevin/replevinlaw13.BtreeLoads", spec := "btreeLoads", unfollowed := true, recurses := true, apart := false, narrowed := true }
def BtreeLoadsUptoSaid : Prop := btreeLoadsUptoRow.holds Try.pinned (OpenSpec.upto btreeLoadsSpec)

/-- 'replevinlaw13.BtreeCommitted', WHERE WHAT IT READS IS OF BULK AT MOST 1048576: true; the input reads as it did. -/
def btreeCommittedUptoRow : OpenClaim := { program := "ytbhladkbnleeoaa", sum := "071a60954b0c18c24e6324474a854217bca5bb9e5e09e423a16f6c0b8b8d0b30", func := "replevin/replevinlaw13.BtreeCommitted", spec := "btreeCommitted", unfollowed := true, recurses := true, apart := false, narrowed := true }
def BtreeCommittedUptoSaid : Prop := btreeCommittedUptoRow.holds Try.pinned (OpenSpec.upto btreeCommittedSpec)

/-- 'replevinlaw13.BtreeSpace', WHERE WHAT IT READS IS OF BULK AT MOST 1048576: true; the input reads as it did. -/
def btreeSpaceUptoRow : OpenClaim := { program := "ytbhladkbnleeoaa", sum := "071a60954b0c18c24e6324474a854217bca5bb9e5e09e423a16f6c0b8b8d0b30", func := "replevin/replevinlaw13.BtreeSpace", spec := "btreeSpace", unfollowed := true, recurses := true, apart := false, narrowed := true }
def BtreeSpaceUptoSaid : Prop := btreeSpaceUptoRow.holds Try.pinned (OpenSpec.upto btreeSpaceSpec)

/-- 'replevinlaw13.BtreeCrashes', WHERE WHAT IT READS IS OF BULK AT MOST 1048576: true; the input reads as it did. -/
def btreeCrashesUptoRow : OpenClaim := { program := "ytbhladkbnleeoaa", sum := "071a60954b0c18c24e6324474a854217bca5bb9e5e09e423a16f6c0b8b8d0b30", func := "replevin/replevinlaw13.BtreeCrashes", spec := "btreeCrashes", unfollowed := true, recurses := true, apart := false, narrowed := true }
def BtreeCrashesUptoSaid : Prop := btreeCrashesUptoRow.holds Try.pinned (OpenSpec.upto btreeCrashesSpec)

end Rows
end Go.Proofs.Ytbhladkbnleeoaa
