/-
  No cell of these rows narrows 'for every input' (looked for: loops, veiled, ifaces, maps, wideKeys, modest, calm, conditions, laid).
  DERIVED. THE GIVEN ROWS OF THIS SEAT. 6 by the template 'for every input the law returns true; each argument reads behind the call as it read before'; 0 by the template 'total and deterministic' (their statements: YtkhepijngopmbaaTotals.lean).
  GIVEN WITH THE SEED: the statements are not yours to turn. If you find one false, say at which input.
  Laid BY PROGRAM, IN A SANDBOX (cutbox-rows.mjs): the forced cells as the released guide's own fill.sh prints them over the translation 3c323dd377ebb312… (all of the seat's roots in one cut). By AI agents, Wed Nov 11 2026. No macro, syntax, notation, axiom, sorry.
-/
import Derived.Test.YtkhepijngopmbaaChecked
import GoSem.Claim
import GoSem.ClaimJoined
import GoSem.ClaimMapViews
import Derived.JoinedTies
import Derived.KernelRfl
namespace Go.Proofs.Ytkhepijngopmbaa
/- THE CELL 'sum', in the pinned program and in every row, IS THE sha256 OF THE DUMP (.gsa) THAT YtkhepijngopmbaaProg.lean LOADS. Nothing in Lean hashes anything: it is a label: what it is worth is what the hold of that sum in a sandbox is worth. -/
noncomputable def Try.pinned : Pinned := { name := "ytkhepijngopmbaa", sum := "3c323dd377ebb312b94a10392942a19d0c6f7335363f805d0bf9674487476cae", checked := Try.checked }
namespace Rows
def none {H : Type} : Left H := { results := [], args := [] }

/-- 'reelkeeperlaw12.TapeWrites': WHATEVER THE INPUT: true; the input reads as it did. -/
def tapeWritesSpec : ChangeSpec := { name := "tapeWrites", fn := fun _ => fun
  | [d1, d2, d3] => { results := [.lit (.bool true)], args := [d1, d2, d3] }
  | _ => none }
def tapeWritesRow : OpenClaim := { program := "ytkhepijngopmbaa", sum := "3c323dd377ebb312b94a10392942a19d0c6f7335363f805d0bf9674487476cae", func := "reelkeeper/reelkeeperlaw12.TapeWrites", spec := "tapeWrites", unfollowed := true, recurses := true, apart := false }
def TapeWritesSaid : Prop := tapeWritesRow.holds Try.pinned (OpenSpec.ofChange tapeWritesSpec)

/-- ITS FALSE NEIGHBOUR: 'it returns false'. Refute it at one input. -/
def tapeWritesWrong : ChangeSpec := { name := "tapeWrites", fn := fun _ => fun
  | [d1, d2, d3] => { results := [.lit (.bool false)], args := [d1, d2, d3] }
  | _ => none }
def TapeWritesWrongFalsely : Prop := tapeWritesRow.holds Try.pinned (OpenSpec.ofChange tapeWritesWrong)

/-- 'reelkeeperlaw12.TapeReads': WHATEVER THE INPUT: true; the input reads as it did. -/
def tapeReadsSpec : ChangeSpec := { name := "tapeReads", fn := fun _ => fun
  | [d1, d2] => { results := [.lit (.bool true)], args := [d1, d2] }
  | _ => none }
def tapeReadsRow : OpenClaim := { program := "ytkhepijngopmbaa", sum := "3c323dd377ebb312b94a10392942a19d0c6f7335363f805d0bf9674487476cae", func := "reelkeeper/reelkeeperlaw12.TapeReads", spec := "tapeReads", unfollowed := true, recurses := true, apart := false }
def TapeReadsSaid : Prop := tapeReadsRow.holds Try.pinned (OpenSpec.ofChange tapeReadsSpec)

/-- ITS FALSE NEIGHBOUR: 'it returns false'. Refute it at one input. -/
def tapeReadsWrong : ChangeSpec := { name := "tapeReads", fn := fun _ => fun
  | [d1, d2] => { results := [.lit (.bool false)], args := [d1, d2] }
  | _ => none }
def TapeReadsWrongFalsely : Prop := tapeReadsRow.holds Try.pinned (OpenSpec.ofChange tapeReadsWrong)

/-- 'reelkeeperlaw12.TapeParts': WHATEVER THE INPUT: true; the input reads as it did. -/
def tapePartsSpec : ChangeSpec := { name := "tapeParts", fn := fun _ => fun
  | [d1, d2, d3] => { results := [.lit (.bool true)], args := [d1, d2, d3] }
  | _ => none }
def tapePartsRow : OpenClaim := { program := "ytkhepijngopmbaa", sum := "3c323dd377ebb312b94a10392942a19d0c6f7335363f805d0bf9674487476cae", func := "reelkeeper/reelkeeperlaw12.TapeParts", spec := "tapeParts", unfollowed := true, recurses := true, apart := false }
def TapePartsSaid : Prop := tapePartsRow.holds Try.pinned (OpenSpec.ofChange tapePartsSpec)

/-- ITS FALSE NEIGHBOUR: 'it returns false'. Refute it at one input. -/
def tapePartsWrong : ChangeSpec := { name := "tapeParts", fn := fun _ => fun
  | [d1, d2, d3] => { results := [.lit (.bool false)], args := [d1, d2, d3] }
  | _ => none }
def TapePartsWrongFalsely : Prop := tapePartsRow.holds Try.pinned (OpenSpec.ofChange tapePartsWrong)

/-- 'reelkeeperlaw12.TapeFills': WHATEVER THE INPUT: true; the input reads as it did. -/
def tapeFillsSpec : ChangeSpec := { name := "tapeFills", fn := fun _ => fun
  | [d1, d2] => { results := [.lit (.bool true)], args := [d1, d2] }
  | _ => none }
def tapeFillsRow : OpenClaim := { program := "ytkhepijngopmbaa", sum := "3c323dd377ebb312b94a10392942a19d0c6f7335363f805d0bf9674487476cae", func := "reelkeeper/reelkeeperlaw12.TapeFills", spec := "tapeFills", unfollowed := true, recurses := true, apart := false }
def TapeFillsSaid : Prop := tapeFillsRow.holds Try.pinned (OpenSpec.ofChange tapeFillsSpec)

/-- ITS FALSE NEIGHBOUR: 'it returns false'. Refute it at one input. -/
def tapeFillsWrong : ChangeSpec := { name := "tapeFills", fn := fun _ => fun
  | [d1, d2] => { results := [.lit (.bool false)], args := [d1, d2] }
  | _ => none }
def TapeFillsWrongFalsely : Prop := tapeFillsRow.holds Try.pinned (OpenSpec.ofChange tapeFillsWrong)

/-- 'reelkeeperlaw12.TapeMarks': WHATEVER THE INPUT: true; the input reads as it did. -/
def tapeMarksSpec : ChangeSpec := { name := "tapeMarks", fn := fun _ => fun
  | [d1, d2] => { results := [.lit (.bool true)], args := [d1, d2] }
  | _ => none }
def tapeMarksRow : OpenClaim := { program := "ytkhepijngopmbaa", sum := "3c323dd377ebb312b94a10392942a19d0c6f7335363f805d0bf9674487476cae", func := "reelkeeper/reelkeeperlaw12.TapeMarks", spec := "tapeMarks", unfollowed := true, recurses := true, apart := false }
def TapeMarksSaid : Prop := tapeMarksRow.holds Try.pinned (OpenSpec.ofChange tapeMarksSpec)

/-- ITS FALSE NEIGHBOUR: 'it returns false'. Refute it at one input. -/
def tapeMarksWrong : ChangeSpec := { name := "tapeMarks", fn := fun _ => fun
  | [d1, d2] => { results := [.lit (.bool false)], args := [d1, d2] }
  | _ => none }
def TapeMarksWrongFalsely : Prop := tapeMarksRow.holds Try.pinned (OpenSpec.ofChange tapeMarksWrong)

/-- 'reelkeeperlaw12.TapeCuts': WHATEVER THE INPUT: true; the input reads as it did. -/
def tapeCutsSpec : ChangeSpec := { name := "tapeCuts", fn := fun _ => fun
  | [d1, d2, d3] => { results := [.lit (.bool true)], args := [d1, d2, d3] }
  | _ => none }
def tapeCutsRow : OpenClaim := { program := "ytkhepijngopmbaa", sum := "3c323dd377ebb312b94a10392942a19d0c6f7335363f805d0bf9674487476cae", func := "reelkeeper/reelkeeperlaw12.TapeCuts", spec := "tapeCuts", unfollowed := true, recurses := true, apart := false }
def TapeCutsSaid : Prop := tapeCutsRow.holds Try.pinned (OpenSpec.ofChange tapeCutsSpec)

/-- ITS FALSE NEIGHBOUR: 'it returns false'. Refute it at one input. -/
def tapeCutsWrong : ChangeSpec := { name := "tapeCuts", fn := fun _ => fun
  | [d1, d2, d3] => { results := [.lit (.bool false)], args := [d1, d2, d3] }
  | _ => none }
def TapeCutsWrongFalsely : Prop := tapeCutsRow.holds Try.pinned (OpenSpec.ofChange tapeCutsWrong)

/- THE SECOND FORM. 'bulk': how many values and letters a reading holds, each counted each time it is reached (what is shared counts as often as it is met; a slice's spare places count too). A statement '..UptoSaid' is the law's where the arguments, and the package variables that the reading takes, are together of bulk at most 1048576: NARROWER than '..Said'. Prove '..Said' where nothing that the law and all that it calls make is longer than what came in: it says more and counts as full. Else prove '..UptoSaid'. A law counts once. -/
mutual
def uptoBulk {H : Type} : DataW H → Nat
  | .lit (.string bytes) => bytes.length + 1
  | .lit _ => 1
  | .nil => 1
  | .ptr d => uptoBulk d + 1
  | .slice elems spare => uptoBulkAll elems + uptoBulkAll spare + 1
  | .agg parts => uptoBulkAll parts + 1
  | .iface _ d => uptoBulk d + 1
  | .map entries => uptoBulkEntries entries + 1
  | .held _ => 1
def uptoBulkAll {H : Type} : List (DataW H) → Nat
  | [] => 0
  | d :: r => uptoBulk d + uptoBulkAll r
def uptoBulkEntries {H : Type} : List (Lit × DataW H) → Nat
  | [] => 0
  | x :: r => uptoBulkEntry x + uptoBulkEntries r
def uptoBulkEntry {H : Type} : Lit × DataW H → Nat
  | (.string bytes, d) => bytes.length + uptoBulk d + 1
  | (_, d) => uptoBulk d + 1
 end
def uptoSmall : (H : Type) → List (DataW H) → Bool := fun _ ds => decide (uptoBulkAll ds ≤ 1048576)
def OpenSpec.upto (s : _root_.Go.ChangeSpec) : _root_.Go.OpenSpec := { _root_.Go.OpenSpec.ofChange s with cond := some uptoSmall }

/-- 'reelkeeperlaw12.TapeWrites', WHERE WHAT IT READS IS OF BULK AT MOST 1048576: true; the input reads as it did. -/
def tapeWritesUptoRow : OpenClaim := { program := "ytkhepijngopmbaa", sum := "3c323dd377ebb312b94a10392942a19d0c6f7335363f805d0bf9674487476cae", func := "reelkeeper/reelkeeperlaw12.TapeWrites", spec := "tapeWrites", unfollowed := true, recurses := true, apart := false, narrowed := true }
def TapeWritesUptoSaid : Prop := tapeWritesUptoRow.holds Try.pinned (OpenSpec.upto tapeWritesSpec)

/-- 'reelkeeperlaw12.TapeReads', WHERE WHAT IT READS IS OF BULK AT MOST 1048576: true; the input reads as it did. -/
def tapeReadsUptoRow : OpenClaim := { program := "ytkhepijngopmbaa", sum := "3c323dd377ebb312b94a10392942a19d0c6f7335363f805d0bf9674487476cae", func := "reelkeeper/reelkeeperlaw12.TapeReads", spec := "tapeReads", unfollowed := true, recurses := true, apart := false, narrowed := true }
def TapeReadsUptoSaid : Prop := tapeReadsUptoRow.holds Try.pinned (OpenSpec.upto tapeReadsSpec)

/-- 'reelkeeperlaw12.TapeParts', WHERE WHAT IT READS IS OF BULK AT MOST 1048576: true; the input reads as it did. -/
def tapePartsUptoRow : OpenClaim := { program := "ytkhepijngopmbaa", sum := "3c323dd377ebb312b94a10392942a19d0c6f7335363f805d0bf9674487476cae", func := "reelkeeper/reelkeeperlaw12.TapeParts", spec := "tapeParts", unfollowed := true, recurses := true, apart := false, narrowed := true }
def TapePartsUptoSaid : Prop := tapePartsUptoRow.holds Try.pinned (OpenSpec.upto tapePartsSpec)

/-- 'reelkeeperlaw12.TapeFills', WHERE WHAT IT READS IS OF BULK AT MOST 1048576: true; the input reads as it did. -/
def tapeFillsUptoRow : OpenClaim := { program := "ytkhepijngopmbaa", sum := "3c323dd377ebb312b94a10392942a19d0c6f7335363f805d0bf9674487476cae", func := "reelkeeper/reelkeeperlaw12.TapeFills", spec := "tapeFills", unfollowed := true, recurses := true, apart := false, narrowed := true }
def TapeFillsUptoSaid : Prop := tapeFillsUptoRow.holds Try.pinned (OpenSpec.upto tapeFillsSpec)

/-- 'reelkeeperlaw12.TapeMarks', WHERE WHAT IT READS IS OF BULK AT MOST 1048576: true; the input reads as it did. -/
def tapeMarksUptoRow : OpenClaim := { program := "ytkhepijngopmbaa", sum := "3c323dd377ebb312b94a10392942a19d0c6f7335363f805d0bf9674487476cae", func := "reelkeeper/reelkeeperlaw12.TapeMarks", spec := "tapeMarks", unfollowed := true, recurses := true, apart := false, narrowed := true }
def TapeMarksUptoSaid : Prop := tapeMarksUptoRow.holds Try.pinned (OpenSpec.upto tapeMarksSpec)

/-- 'reelkeeperlaw12.TapeCuts', WHERE WHAT IT READS IS OF BULK AT MOST 1048576: true; the input reads as it did. -/
def tapeCutsUptoRow : OpenClaim := { program := "ytkhepijngopmbaa", sum := "3c323dd377ebb312b94a10392942a19d0c6f7335363f805d0bf9674487476cae", func := "reelkeeper/reelkeeperlaw12.TapeCuts", spec := "tapeCuts", unfollowed := true, recurses := true, apart := false, narrowed := true }
def TapeCutsUptoSaid : Prop := tapeCutsUptoRow.holds Try.pinned (OpenSpec.upto tapeCutsSpec)

end Rows
end Go.Proofs.Ytkhepijngopmbaa
