/-
  No cell of these rows narrows 'for every input' (looked for: loops, veiled, ifaces, maps, wideKeys, modest, calm, conditions, laid).
  DERIVED. THE GIVEN ROWS OF THIS SEAT. 9 by the template 'for every input the law returns true; each argument reads behind the call as it read before'; 0 by the template 'total and deterministic' (their statements: YtfnoaohbjlnkgaaTotals.lean).
  GIVEN WITH THE SEED: the statements are not yours to turn. If you find one false, say at which input.
  Laid BY PROGRAM, IN A SANDBOX (cutbox-rows.mjs): the forced cells as the released guide's own fill.sh prints them over the translation 7e8f4bd2d18450c1… (all of the seat's roots in one cut). By AI agents, Wed Nov 11 2026. No macro, syntax, notation, axiom, sorry.
-/
import Derived.Test.YtfnoaohbjlnkgaaChecked
import GoSem.Claim
import GoSem.ClaimJoined
import GoSem.ClaimMapViews
import Derived.JoinedTies
import Derived.KernelRfl
namespace Go.Proofs.Ytfnoaohbjlnkgaa
/- THE CELL 'sum', in the pinned program and in every row, IS THE sha256 OF THE DUMP (.gsa) THAT YtfnoaohbjlnkgaaProg.lean LOADS. Nothing in Lean hashes anything: it is a label: what it is worth is what the hold of that sum in a sandbox is worth. -/
noncomputable def Try.pinned : Pinned := { name := "ytfnoaohbjlnkgaa", sum := "7e8f4bd2d18450c1f9c6a8106f4fbca40cfb9245751547b5c4bd4eecc18ef380", checked := Try.checked }
namespace Rows
def none {H : Type} : Left H := { results := [], args := [] }

/-- 'replevinlaw09.DiskTorn': WHATEVER THE INPUT: true; the input reads as it did. -/
def diskTornSpec : ChangeSpec := { name := "diskTorn", fn := fun _ => fun
  | [d1, d2, d3] => { results := [.lit (.bool true)], args := [d1, d2, d3] }
  | _ => none }
def diskTornRow : OpenClaim := { program := "ytfnoaohbjlnkgaa", sum := "7e8f4bd2d18450c1f9c6a8106f4fbca40cfb9245751547b5c4bd4eecc18ef380", func := "replevin/replevinlaw09.DiskTorn", spec := "diskTorn", inPlace := ["maps.clone"], unfollowed := true, recurses := true, apart := false }
def DiskTornSaid : Prop := diskTornRow.holds Try.pinned (OpenSpec.ofChange diskTornSpec)

/-- ITS FALSE NEIGHBOUR: 'it returns false'. Refute it at one input. -/
def diskTornWrong : ChangeSpec := { name := "diskTorn", fn := fun _ => fun
  | [d1, d2, d3] => { results := [.lit (.bool false)], args := [d1, d2, d3] }
  | _ => none }
def DiskTornWrongFalsely : Prop := diskTornRow.holds Try.pinned (OpenSpec.ofChange diskTornWrong)

/-- 'replevinlaw09.DiskLimit': WHATEVER THE INPUT: true; the input reads as it did. -/
def diskLimitSpec : ChangeSpec := { name := "diskLimit", fn := fun _ => fun
  | [d1, d2] => { results := [.lit (.bool true)], args := [d1, d2] }
  | _ => none }
def diskLimitRow : OpenClaim := { program := "ytfnoaohbjlnkgaa", sum := "7e8f4bd2d18450c1f9c6a8106f4fbca40cfb9245751547b5c4bd4eecc18ef380", func := "replevin/replevinlaw09.DiskLimit", spec := "diskLimit", inPlace := ["maps.clone"], unfollowed := true, recurses := true, apart := false }
def DiskLimitSaid : Prop := diskLimitRow.holds Try.pinned (OpenSpec.ofChange diskLimitSpec)

/-- ITS FALSE NEIGHBOUR: 'it returns false'. Refute it at one input. -/
def diskLimitWrong : ChangeSpec := { name := "diskLimit", fn := fun _ => fun
  | [d1, d2] => { results := [.lit (.bool false)], args := [d1, d2] }
  | _ => none }
def DiskLimitWrongFalsely : Prop := diskLimitRow.holds Try.pinned (OpenSpec.ofChange diskLimitWrong)

/-- 'replevinlaw09.DiskNew': WHATEVER THE INPUT: true; the input reads as it did. -/
def diskNewSpec : ChangeSpec := { name := "diskNew", fn := fun _ => fun
  | [d1, d2] => { results := [.lit (.bool true)], args := [d1, d2] }
  | _ => none }
def diskNewRow : OpenClaim := { program := "ytfnoaohbjlnkgaa", sum := "7e8f4bd2d18450c1f9c6a8106f4fbca40cfb9245751547b5c4bd4eecc18ef380", func := "replevin/replevinlaw09.DiskNew", spec := "diskNew", inPlace := ["maps.clone"], unfollowed := true, recurses := true, apart := false }
def DiskNewSaid : Prop := diskNewRow.holds Try.pinned (OpenSpec.ofChange diskNewSpec)

/-- ITS FALSE NEIGHBOUR: 'it returns false'. Refute it at one input. -/
def diskNewWrong : ChangeSpec := { name := "diskNew", fn := fun _ => fun
  | [d1, d2] => { results := [.lit (.bool false)], args := [d1, d2] }
  | _ => none }
def DiskNewWrongFalsely : Prop := diskNewRow.holds Try.pinned (OpenSpec.ofChange diskNewWrong)

/-- 'replevinlaw09.DiskFlushed': WHATEVER THE INPUT: true; the input reads as it did. -/
def diskFlushedSpec : ChangeSpec := { name := "diskFlushed", fn := fun _ => fun
  | [d1, d2, d3, d4] => { results := [.lit (.bool true)], args := [d1, d2, d3, d4] }
  | _ => none }
def diskFlushedRow : OpenClaim := { program := "ytfnoaohbjlnkgaa", sum := "7e8f4bd2d18450c1f9c6a8106f4fbca40cfb9245751547b5c4bd4eecc18ef380", func := "replevin/replevinlaw09.DiskFlushed", spec := "diskFlushed", inPlace := ["maps.clone"], unfollowed := true, recurses := true, apart := false }
def DiskFlushedSaid : Prop := diskFlushedRow.holds Try.pinned (OpenSpec.ofChange diskFlushedSpec)

/-- ITS FALSE NEIGHBOUR: 'it returns false'. Refute it at one input. -/
def diskFlushedWrong : ChangeSpec := { name := "diskFlushed", fn := fun _ => fun
  | [d1, d2, d3, d4] => { results := [.lit (.bool false)], args := [d1, d2, d3, d4] }
  | _ => none }
def DiskFlushedWrongFalsely : Prop := diskFlushedRow.holds Try.pinned (OpenSpec.ofChange diskFlushedWrong)

/-- 'replevinlaw09.DiskWhole': WHATEVER THE INPUT: true; the input reads as it did. -/
def diskWholeSpec : ChangeSpec := { name := "diskWhole", fn := fun _ => fun
  | [d1, d2, d3] => { results := [.lit (.bool true)], args := [d1, d2, d3] }
  | _ => none }
def diskWholeRow : OpenClaim := { program := "ytfnoaohbjlnkgaa", sum := "7e8f4bd2d18450c1f9c6a8106f4fbca40cfb9245751547b5c4bd4eecc18ef380", func := "replevin/replevinlaw09.DiskWhole", spec := "diskWhole", inPlace := ["maps.clone"], unfollowed := true, recurses := true, apart := false }
def DiskWholeSaid : Prop := diskWholeRow.holds Try.pinned (OpenSpec.ofChange diskWholeSpec)

/-- ITS FALSE NEIGHBOUR: 'it returns false'. Refute it at one input. -/
def diskWholeWrong : ChangeSpec := { name := "diskWhole", fn := fun _ => fun
  | [d1, d2, d3] => { results := [.lit (.bool false)], args := [d1, d2, d3] }
  | _ => none }
def DiskWholeWrongFalsely : Prop := diskWholeRow.holds Try.pinned (OpenSpec.ofChange diskWholeWrong)

/-- 'replevinlaw09.DiskUsed': WHATEVER THE INPUT: true; the input reads as it did. -/
def diskUsedSpec : ChangeSpec := { name := "diskUsed", fn := fun _ => fun
  | [d1, d2, d3] => { results := [.lit (.bool true)], args := [d1, d2, d3] }
  | _ => none }
def diskUsedRow : OpenClaim := { program := "ytfnoaohbjlnkgaa", sum := "7e8f4bd2d18450c1f9c6a8106f4fbca40cfb9245751547b5c4bd4eecc18ef380", func := "replevin/replevinlaw09.DiskUsed", spec := "diskUsed", inPlace := ["maps.clone"], unfollowed := true, recurses := true, apart := false }
def DiskUsedSaid : Prop := diskUsedRow.holds Try.pinned (OpenSpec.ofChange diskUsedSpec)

/-- ITS FALSE NEIGHBOUR: 'it returns false'. Refute it at one input. -/
def diskUsedWrong : ChangeSpec := { name := "diskUsed", fn := fun _ => fun
  | [d1, d2, d3] => { results := [.lit (.bool false)], args := [d1, d2, d3] }
  | _ => none }
def DiskUsedWrongFalsely : Prop := diskUsedRow.holds Try.pinned (OpenSpec.ofChange diskUsedWrong)

/-- 'replevinlaw09.DiskOperations': WHATEVER THE INPUT: true; the input reads as it did. -/
def diskOperationsSpec : ChangeSpec := { name := "diskOperations", fn := fun _ => fun
  | [d1, d2] => { results := [.lit (.bool true)], args := [d1, d2] }
  | _ => none }
def diskOperationsRow : OpenClaim := { program := "ytfnoaohbjlnkgaa", sum := "7e8f4bd2d18450c1f9c6a8106f4fbca40cfb9245751547b5c4bd4eecc18ef380", func := "replevin/replevinlaw09.DiskOperations", spec := "diskOperations", inPlace := ["maps.clone"], unfollowed := true, recurses := true, apart := false }
def DiskOperationsSaid : Prop := diskOperationsRow.holds Try.pinned (OpenSpec.ofChange diskOperationsSpec)

/-- ITS FALSE NEIGHBOUR: 'it returns false'. Refute it at one input. -/
def diskOperationsWrong : ChangeSpec := { name := "diskOperations", fn := fun _ => fun
  | [d1, d2] => { results := [.lit (.bool false)], args := [d1, d2] }
  | _ => none }
def DiskOperationsWrongFalsely : Prop := diskOperationsRow.holds Try.pinned (OpenSpec.ofChange diskOperationsWrong)

/-- 'replevinlaw09.DiskClones': WHATEVER THE INPUT: true; the input reads as it did. -/
def diskClonesSpec : ChangeSpec := { name := "diskClones", fn := fun _ => fun
  | [d1, d2, d3] => { results := [.lit (.bool true)], args := [d1, d2, d3] }
  | _ => none }
def diskClonesRow : OpenClaim := { program := "ytfnoaohbjlnkgaa", sum := "7e8f4bd2d18450c1f9c6a8106f4fbca40cfb9245751547b5c4bd4eecc18ef380", func := "replevin/replevinlaw09.DiskClones", spec := "diskClones", inPlace := ["maps.clone"], unfollowed := true, recurses := true, apart := false }
def DiskClonesSaid : Prop := diskClonesRow.holds Try.pinned (OpenSpec.ofChange diskClonesSpec)

/-- ITS FALSE NEIGHBOUR: 'it returns false'. Refute it at one input. -/
def diskClonesWrong : ChangeSpec := { name := "diskClones", fn := fun _ => fun
  | [d1, d2, d3] => { results := [.lit (.bool false)], args := [d1, d2, d3] }
  | _ => none }
def DiskClonesWrongFalsely : Prop := diskClonesRow.holds Try.pinned (OpenSpec.ofChange diskClonesWrong)

/-- 'replevinlaw09.DiskNil': WHATEVER THE INPUT: true; the input reads as it did. -/
def diskNilSpec : ChangeSpec := { name := "diskNil", fn := fun _ => fun
  | [d1, d2, d3] => { results := [.lit (.bool true)], args := [d1, d2, d3] }
  | _ => none }
def diskNilRow : OpenClaim := { program := "ytfnoaohbjlnkgaa", sum := "7e8f4bd2d18450c1f9c6a8106f4fbca40cfb9245751547b5c4bd4eecc18ef380", func := "replevin/replevinlaw09.DiskNil", spec := "diskNil", inPlace := ["maps.clone"], unfollowed := true, recurses := true, apart := false }
def DiskNilSaid : Prop := diskNilRow.holds Try.pinned (OpenSpec.ofChange diskNilSpec)

/-- ITS FALSE NEIGHBOUR: 'it returns false'. Refute it at one input. -/
def diskNilWrong : ChangeSpec := { name := "diskNil", fn := fun _ => fun
  | [d1, d2, d3] => { results := [.lit (.bool false)], args := [d1, d2, d3] }
  | _ => none }
def DiskNilWrongFalsely : Prop := diskNilRow.holds Try.pinned (OpenSpec.ofChange diskNilWrong)

/- THE SECOND FORM. 'bulk': how many values and letters a reading holds, each counted each time it is reached (what is shared counts as often as it is met; a slice's spare places count too). A statement '..UptoSaid' is the law's where the arguments, and the package variables that the reading takes, are together of bulk at most 1048576: NARROWER than '..Said'. Prove '..Said' where nothing that the law and all that it calls make is longer than what came in: it says more and counts as full. Else prove '..UptoSaid'. A law counts once. -/
mutual
def uptoBulk {H : Type} : DataW H → Nat
  | .lit (.string bytes) => bytes.length + 1
  | .lit _ => 1
  | .nil => 1
  | .ptr d => uptoBulk d + 1
  | .slice elems spare => uptoBulkAll elems + uptoBulkAll spare + 1
  | .agg parts => uptoBulkAll parts + 1
  | .iface _ d => uptoBulk d + 1
  | .map entries => uptoBulkEntries entries + 1
  | .held _ => 1
def uptoBulkAll {H : Type} : List (DataW H) → Nat
  | [] => 0
  | d :: r => uptoBulk d + uptoBulkAll r
def uptoBulkEntries {H : Type} : List (Lit × DataW H) → Nat
  | [] => 0
  | x :: r => uptoBulkEntry x + uptoBulkEntries r
def uptoBulkEntry {H : Type} : Lit × DataW H → Nat
  | (.string bytes, d) => bytes.length + uptoBulk d + 1
  | (_, d) => uptoBulk d + 1
 end
def uptoSmall : (H : Type) → List (DataW H) → Bool := fun _ ds => decide (uptoBulkAll ds ≤ 1048576)
def OpenSpec.upto (s : _root_.Go.ChangeSpec) : _root_.Go.OpenSpec := { _root_.Go.OpenSpec.ofChange s with cond := some uptoSmall }

/-- 'replevinlaw09.DiskTorn', WHERE WHAT IT READS IS OF BULK AT MOST 1048576: true; the input reads as it did. -/
def diskTornUptoRow : OpenClaim := { program := "ytfnoaohbjlnkgaa", sum := "7e8f4bd2d18450c1f9c6a8106f4fbca40cfb9245751547b5c4bd4eecc18ef380", func := "replevin/replevinlaw09.DiskTorn", spec := "diskTorn", inPlace := ["maps.clone"], unfollowed := true, recurses := true, apart := false, narrowed := true }
def DiskTornUptoSaid : Prop := diskTornUptoRow.holds Try.pinned (OpenSpec.upto diskTornSpec)

/-- 'replevinlaw09.DiskLimit', WHERE WHAT IT READS IS OF BULK AT MOST 1048576: true; the input reads as it did. -/
def diskLimitUptoRow : OpenClaim := { program := "ytfnoaohbjlnkgaa", sum := "7e8f4bd2d18450c1f9c6a8106f4fbca40cfb9245751547b5c4bd4eecc18ef380", func := "replevin/replevinlaw09.DiskLimit", spec := "diskLimit", inPlace := ["maps.clone"], unfollowed := true, recurses := true, apart := false, narrowed := true }
def DiskLimitUptoSaid : Prop := diskLimitUptoRow.holds Try.pinned (OpenSpec.upto diskLimitSpec)

/-- 'replevinlaw09.DiskNew', WHERE WHAT IT READS IS OF BULK AT MOST 1048576: true; the input reads as it did. -/
def diskNewUptoRow : OpenClaim := { program := "ytfnoaohbjlnkgaa", sum := "7e8f4bd2d18450c1f9c6a8106f4fbca40cfb9245751547b5c4bd4eecc18ef380", func := "replevin/replevinlaw09.DiskNew", spec := "diskNew", inPlace := ["maps.clone"], unfollowed := true, recurses := true, apart := false, narrowed := true }
def DiskNewUptoSaid : Prop := diskNewUptoRow.holds Try.pinned (OpenSpec.upto diskNewSpec)

/-- 'replevinlaw09.DiskFlushed', WHERE WHAT IT READS IS OF BULK AT MOST 1048576: true; the input reads as it did. -/
def diskFlushedUptoRow : OpenClaim := { program := "ytfnoaohbjlnkgaa", sum := "7e8f4bd2d18450c1f9c6a8106f4fbca40cfb9245751547b5c4bd4eecc18ef380", func := "replevin/replevinlaw09.DiskFlushed", spec := "diskFlushed", inPlace := ["maps.clone"], unfollowed := true, recurses := true, apart := false, narrowed := true }
def DiskFlushedUptoSaid : Prop := diskFlushedUptoRow.holds Try.pinned (OpenSpec.upto diskFlushedSpec)

/-- 'replevinlaw09.DiskWhole', WHERE WHAT IT READS IS OF BULK AT MOST 1048576: true; the input reads as it did. -/
def diskWholeUptoRow : OpenClaim := { program := "ytfnoaohbjlnkgaa", sum := "7e8f4bd2d18450c1f9c6a8106f4fbca40cfb9245751547b5c4bd4eecc18ef380", func := "replevin/replevinlaw09.DiskWhole", spec := "diskWhole", inPlace := ["maps.clone"], unfollowed := true, recurses := true, apart := false, narrowed := true }
def DiskWholeUptoSaid : Prop := diskWholeUptoRow.holds Try.pinned (OpenSpec.upto diskWholeSpec)

/-- 'replevinlaw09.DiskUsed', WHERE WHAT IT READS IS OF BULK AT MOST 1048576: true; the input reads as it did. -/
def diskUsedUptoRow : OpenClaim := { program := "ytfnoaohbjlnkgaa", sum := "7e8f4bd2d18450c1f9c6a8106f4fbca40cfb9245751547b5c4bd4eecc18ef380", func := "replevin/replevinlaw09.DiskUsed", spec := "diskUsed", inPlace := ["maps.clone"], unfollowed := true, recurses := true, apart := false, narrowed := true }
def DiskUsedUptoSaid : Prop := diskUsedUptoRow.holds Try.pinned (OpenSpec.upto diskUsedSpec)

/-- 'replevinlaw09.DiskOperations', WHERE WHAT IT READS IS OF BULK AT MOST 1048576: true; the input reads as it did. -/
def diskOperationsUptoRow : OpenClaim := { program := "ytfnoaohbjlnkgaa", sum := "7e8f4bd2d18450c1f9c6a8106f4fbca40cfb9245751547b5c4bd4eecc18ef380", func := "replevin/replevinlaw09.DiskOperations", spec := "diskOperations", inPlace := ["maps.clone"], unfollowed := true, recurses := true, apart := false, narrowed := true }
def DiskOperationsUptoSaid : Prop := diskOperationsUptoRow.holds Try.pinned (OpenSpec.upto diskOperationsSpec)

/-- 'replevinlaw09.DiskClones', WHERE WHAT IT READS IS OF BULK AT MOST 1048576: true; the input reads as it did. -/
def diskClonesUptoRow : OpenClaim := { program := "ytfnoaohbjlnkgaa", sum := "7e8f4bd2d18450c1f9c6a8106f4fbca40cfb9245751547b5c4bd4eecc18ef380", func := "replevin/replevinlaw09.DiskClones", spec := "diskClones", inPlace := ["maps.clone"], unfollowed := true, recurses := true, apart := false, narrowed := true }
def DiskClonesUptoSaid : Prop := diskClonesUptoRow.holds Try.pinned (OpenSpec.upto diskClonesSpec)

/-- 'replevinlaw09.DiskNil', WHERE WHAT IT READS IS OF BULK AT MOST 1048576: true; the input reads as it did. -/
def diskNilUptoRow : OpenClaim := { program := "ytfnoaohbjlnkgaa", sum := "7e8f4bd2d18450c1f9c6a8106f4fbca40cfb9245751547b5c4bd4eecc18ef380", func := "replevin/replevinlaw09.DiskNil", spec := "diskNil", inPlace := ["maps.clone"], unfollowed := true, recurses := true, apart := false, narrowed := true }
def DiskNilUptoSaid : Prop := diskNilUptoRow.holds Try.pinned (OpenSpec.upto diskNilSpec)

end Rows
end Go.Proofs.Ytfnoaohbjlnkgaa
