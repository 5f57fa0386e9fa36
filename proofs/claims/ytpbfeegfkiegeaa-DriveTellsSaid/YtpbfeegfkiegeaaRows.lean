/-
  No cell of these rows narrows 'for every input' (looked for: loops, veiled, ifaces, maps, wideKeys, modest, calm, conditions, laid).
  DERIVED. THE GIVEN ROWS OF THIS SEAT. 6 by the template 'for every input the law returns true; each argument reads behind the call as it read before'; 0 by the template 'total and deterministic' (their statements: YtpbfeegfkiegeaaTotals.lean).
  GIVEN WITH THE SEED: the statements are not yours to turn. If you find one false, say at which input.
  Laid BY PROGRAM, IN A SANDBOX (cutbox-rows.mjs): the forced cells as the released guide's own fill.sh prints them over the translation a6835df917f6860c… (all of the seat's roots in one cut). By AI agents, Wed Nov 11 2026. No macro, syntax, notation, axiom, sorry.
-/
import Derived.Test.YtpbfeegfkiegeaaChecked
import GoSem.Claim
import GoSem.ClaimJoined
import GoSem.ClaimMapViews
import Derived.JoinedTies
import Derived.KernelRfl
namespace Go.Proofs.Ytpbfeegfkiegeaa
/- THE CELL 'sum', in the pinned program and in every row, IS THE sha256 OF THE DUMP (.gsa) THAT YtpbfeegfkiegeaaProg.lean LOADS. Nothing in Lean hashes anything: it is a label: what it is worth is what the hold of that sum in a sandbox is worth. -/
noncomputable def Try.pinned : Pinned := { name := "ytpbfeegfkiegeaa", sum := "a6835df917f6860cdaab8fcfbab1da10391a8b80d1630df1b8f290f4e5b3eeae", checked := Try.checked }
namespace Rows
def none {H : Type} : Left H := { results := [], args := [] }

/-- 'reelkeeperlaw13.DriveTells': WHATEVER THE INPUT: true; the input reads as it did. -/
def driveTellsSpec : ChangeSpec := { name := "driveTells", fn := fun _ => fun
  | [d1, d2, d3, d4] => { results := [.lit (.bool true)], args := [d1, d2, d3, d4] }
  | _ => none }
def driveTellsRow : OpenClaim := { program := "ytpbfeegfkiegeaa", sum := "a6835df917f6860cdaab8fcfbab1da10391a8b80d1630df1b8f290f4e5b3eeae", func := "reelkeeper/reelkeeperlaw13.DriveTells", spec := "driveTells", unfollowed := true, recurses := true, apart := false }
def DriveTellsSaid : Prop := driveTellsRow.holds Try.pinned (OpenSpec.ofChange driveTellsSpec)

/-- ITS FALSE NEIGHBOUR: 'it returns false'. Refute it at one input. -/
def driveTellsWrong : ChangeSpec := { name := "driveTells", fn := fun _ => fun
  | [d1, d2, d3, d4] => { results := [.lit (.bool false)], args := [d1, d2, d3, d4] }
  | _ => none }
def DriveTellsWrongFalsely : Prop := driveTellsRow.holds Try.pinned (OpenSpec.ofChange driveTellsWrong)

/-- 'reelkeeperlaw13.DriveWrites': WHATEVER THE INPUT: true; the input reads as it did. -/
def driveWritesSpec : ChangeSpec := { name := "driveWrites", fn := fun _ => fun
  | [d1, d2, d3] => { results := [.lit (.bool true)], args := [d1, d2, d3] }
  | _ => none }
def driveWritesRow : OpenClaim := { program := "ytpbfeegfkiegeaa", sum := "a6835df917f6860cdaab8fcfbab1da10391a8b80d1630df1b8f290f4e5b3eeae", func := "reelkeeper/reelkeeperlaw13.DriveWrites", spec := "driveWrites", unfollowed := true, recurses := true, apart := false }
def DriveWritesSaid : Prop := driveWritesRow.holds Try.pinned (OpenSpec.ofChange driveWritesSpec)

/-- ITS FALSE NEIGHBOUR: 'it returns false'. Refute it at one input. -/
def driveWritesWrong : ChangeSpec := { name := "driveWrites", fn := fun _ => fun
  | [d1, d2, d3] => { results := [.lit (.bool false)], args := [d1, d2, d3] }
  | _ => none }
def DriveWritesWrongFalsely : Prop := driveWritesRow.holds Try.pinned (OpenSpec.ofChange driveWritesWrong)

/-- 'reelkeeperlaw13.DriveReads': WHATEVER THE INPUT: true; the input reads as it did. -/
def driveReadsSpec : ChangeSpec := { name := "driveReads", fn := fun _ => fun
  | [d1, d2] => { results := [.lit (.bool true)], args := [d1, d2] }
  | _ => none }
def driveReadsRow : OpenClaim := { program := "ytpbfeegfkiegeaa", sum := "a6835df917f6860cdaab8fcfbab1da10391a8b80d1630df1b8f290f4e5b3eeae", func := "reelkeeper/reelkeeperlaw13.DriveReads", spec := "driveReads", unfollowed := true, recurses := true, apart := false }
def DriveReadsSaid : Prop := driveReadsRow.holds Try.pinned (OpenSpec.ofChange driveReadsSpec)

/-- ITS FALSE NEIGHBOUR: 'it returns false'. Refute it at one input. -/
def driveReadsWrong : ChangeSpec := { name := "driveReads", fn := fun _ => fun
  | [d1, d2] => { results := [.lit (.bool false)], args := [d1, d2] }
  | _ => none }
def DriveReadsWrongFalsely : Prop := driveReadsRow.holds Try.pinned (OpenSpec.ofChange driveReadsWrong)

/-- 'reelkeeperlaw13.DriveLost': WHATEVER THE INPUT: true; the input reads as it did. -/
def driveLostSpec : ChangeSpec := { name := "driveLost", fn := fun _ => fun
  | [d1, d2, d3] => { results := [.lit (.bool true)], args := [d1, d2, d3] }
  | _ => none }
def driveLostRow : OpenClaim := { program := "ytpbfeegfkiegeaa", sum := "a6835df917f6860cdaab8fcfbab1da10391a8b80d1630df1b8f290f4e5b3eeae", func := "reelkeeper/reelkeeperlaw13.DriveLost", spec := "driveLost", unfollowed := true, recurses := true, apart := false }
def DriveLostSaid : Prop := driveLostRow.holds Try.pinned (OpenSpec.ofChange driveLostSpec)

/-- ITS FALSE NEIGHBOUR: 'it returns false'. Refute it at one input. -/
def driveLostWrong : ChangeSpec := { name := "driveLost", fn := fun _ => fun
  | [d1, d2, d3] => { results := [.lit (.bool false)], args := [d1, d2, d3] }
  | _ => none }
def DriveLostWrongFalsely : Prop := driveLostRow.holds Try.pinned (OpenSpec.ofChange driveLostWrong)

/-- 'reelkeeperlaw13.DriveMounts': WHATEVER THE INPUT: true; the input reads as it did. -/
def driveMountsSpec : ChangeSpec := { name := "driveMounts", fn := fun _ => fun
  | [d1, d2, d3] => { results := [.lit (.bool true)], args := [d1, d2, d3] }
  | _ => none }
def driveMountsRow : OpenClaim := { program := "ytpbfeegfkiegeaa", sum := "a6835df917f6860cdaab8fcfbab1da10391a8b80d1630df1b8f290f4e5b3eeae", func := "reelkeeper/reelkeeperlaw13.DriveMounts", spec := "driveMounts", unfollowed := true, recurses := true, apart := false }
def DriveMountsSaid : Prop := driveMountsRow.holds Try.pinned (OpenSpec.ofChange driveMountsSpec)

/-- ITS FALSE NEIGHBOUR: 'it returns false'. Refute it at one input. -/
def driveMountsWrong : ChangeSpec := { name := "driveMounts", fn := fun _ => fun
  | [d1, d2, d3] => { results := [.lit (.bool false)], args := [d1, d2, d3] }
  | _ => none }
def DriveMountsWrongFalsely : Prop := driveMountsRow.holds Try.pinned (OpenSpec.ofChange driveMountsWrong)

/-- 'reelkeeperlaw13.DriveFills': WHATEVER THE INPUT: true; the input reads as it did. -/
def driveFillsSpec : ChangeSpec := { name := "driveFills", fn := fun _ => fun
  | [d1, d2] => { results := [.lit (.bool true)], args := [d1, d2] }
  | _ => none }
def driveFillsRow : OpenClaim := { program := "ytpbfeegfkiegeaa", sum := "a6835df917f6860cdaab8fcfbab1da10391a8b80d1630df1b8f290f4e5b3eeae", func := "reelkeeper/reelkeeperlaw13.DriveFills", spec := "driveFills", unfollowed := true, recurses := true, apart := false }
def DriveFillsSaid : Prop := driveFillsRow.holds Try.pinned (OpenSpec.ofChange driveFillsSpec)

/-- ITS FALSE NEIGHBOUR: 'it returns false'. Refute it at one input. -/
def driveFillsWrong : ChangeSpec := { name := "driveFills", fn := fun _ => fun
  | [d1, d2] => { results := [.lit (.bool false)], args := [d1, d2] }
  | _ => none }
def DriveFillsWrongFalsely : Prop := driveFillsRow.holds Try.pinned (OpenSpec.ofChange driveFillsWrong)

/- THE SECOND FORM. 'bulk': how many values and letters a reading holds, each counted each time it is reached (what is shared counts as often as it is met; a slice's spare places count too). A statement '..UptoSaid' is the law's where the arguments, and the package variables that the reading takes, are together of bulk at most 1048576: NARROWER than '..Said'. Prove '..Said' where nothing that the law and all that it calls make is longer than what came in: it says more and counts as full. Else prove '..UptoSaid'. A law counts once. -/
mutual
def uptoBulk {H : Type} : DataW H → Nat
  | .lit (.string bytes) => bytes.length + 1
  | .lit _ => 1
  | .nil => 1
  | .ptr d => uptoBulk d + 1
  | .slice elems spare => uptoBulkAll elems + uptoBulkAll spare + 1
  | .agg parts => uptoBulkAll parts + 1
  | .iface _ d => uptoBulk d + 1
  | .map entries => uptoBulkEntries entries + 1
  | .held _ => 1
def uptoBulkAll {H : Type} : List (DataW H) → Nat
  | [] => 0
  | d :: r => uptoBulk d + uptoBulkAll r
def uptoBulkEntries {H : Type} : List (Lit × DataW H) → Nat
  | [] => 0
  | x :: r => uptoBulkEntry x + uptoBulkEntries r
def uptoBulkEntry {H : Type} : Lit × DataW H → Nat
  | (.string bytes, d) => bytes.length + uptoBulk d + 1
  | (_, d) => uptoBulk d + 1
 end
def uptoSmall : (H : Type) → List (DataW H) → Bool := fun _ ds => decide (uptoBulkAll ds ≤ 1048576)
def OpenSpec.upto (s : _root_.Go.ChangeSpec) : _root_.Go.OpenSpec := { _root_.Go.OpenSpec.ofChange s with cond := some uptoSmall }

/-- 'reelkeeperlaw13.DriveTells', WHERE WHAT IT READS IS OF BULK AT MOST 1048576: true; the input reads as it did. -/
def driveTellsUptoRow : OpenClaim := { program := "ytpbfeegfkiegeaa", sum := "a6835df917f6860cdaab8fcfbab1da10391a8b80d1630df1b8f290f4e5b3eeae", func := "reelkeeper/reelkeeperlaw13.DriveTells", spec := "driveTells", unfollowed := true, recurses := true, apart := false, narrowed := true }
def DriveTellsUptoSaid : Prop := driveTellsUptoRow.holds Try.pinned (OpenSpec.upto driveTellsSpec)

/-- 'reelkeeperlaw13.DriveWrites', WHERE WHAT IT READS IS OF BULK AT MOST 1048576: true; the input reads as it did. -/
def driveWritesUptoRow : OpenClaim := { program := "ytpbfeegfkiegeaa", sum := "a6835df917f6860cdaab8fcfbab1da10391a8b80d1630df1b8f290f4e5b3eeae", func := "reelkeeper/reelkeeperlaw13.DriveWrites", spec := "driveWrites", unfollowed := true, recurses := true, apart := false, narrowed := true }
def DriveWritesUptoSaid : Prop := driveWritesUptoRow.holds Try.pinned (OpenSpec.upto driveWritesSpec)

/-- 'reelkeeperlaw13.DriveReads', WHERE WHAT IT READS IS OF BULK AT MOST 1048576: true; the input reads as it did. -/
def driveReadsUptoRow : OpenClaim := { program := "ytpbfeegfkiegeaa", sum := "a6835df917f6860cdaab8fcfbab1da10391a8b80d1630df1b8f290f4e5b3eeae", func := "reelkeeper/reelkeeperlaw13.DriveReads", spec := "driveReads", unfollowed := true, recurses := true, apart := false, narrowed := true }
def DriveReadsUptoSaid : Prop := driveReadsUptoRow.holds Try.pinned (OpenSpec.upto driveReadsSpec)

/-- 'reelkeeperlaw13.DriveLost', WHERE WHAT IT READS IS OF BULK AT MOST 1048576: true; the input reads as it did. -/
def driveLostUptoRow : OpenClaim := { program := "ytpbfeegfkiegeaa", sum := "a6835df917f6860cdaab8fcfbab1da10391a8b80d1630df1b8f290f4e5b3eeae", func := "reelkeeper/reelkeeperlaw13.DriveLost", spec := "driveLost", unfollowed := true, recurses := true, apart := false, narrowed := true }
def DriveLostUptoSaid : Prop := driveLostUptoRow.holds Try.pinned (OpenSpec.upto driveLostSpec)

/-- 'reelkeeperlaw13.DriveMounts', WHERE WHAT IT READS IS OF BULK AT MOST 1048576: true; the input reads as it did. -/
def driveMountsUptoRow : OpenClaim := { program := "ytpbfeegfkiegeaa", sum := "a6835df917f6860cdaab8fcfbab1da10391a8b80d1630df1b8f290f4e5b3eeae", func := "reelkeeper/reelkeeperlaw13.DriveMounts", spec := "driveMounts", unfollowed := true, recurses := true, apart := false, narrowed := true }
def DriveMountsUptoSaid : Prop := driveMountsUptoRow.holds Try.pinned (OpenSpec.upto driveMountsSpec)

/-- 'reelkeeperlaw13.DriveFills', WHERE WHAT IT READS IS OF BULK AT MOST 1048576: true; the input reads as it did. -/
def driveFillsUptoRow : OpenClaim := { program := "ytpbfeegfkiegeaa", sum := "a6835df917f6860cdaab8fcfbab1da10391a8b80d1630df1b8f290f4e5b3eeae", func := "reelkeeper/reelkeeperlaw13.DriveFills", spec := "driveFills", unfollowed := true, recurses := true, apart := false, narrowed := true }
def DriveFillsUptoSaid : Prop := driveFillsUptoRow.holds Try.pinned (OpenSpec.upto driveFillsSpec)

end Rows
end Go.Proofs.Ytpbfeegfkiegeaa
