/-
  No cell of these rows narrows 'for every input' (looked for: loops, veiled, ifaces, maps, wideKeys, modest, calm, conditions, laid).
  DERIVED. THE GIVEN ROWS OF THIS SEAT. 7 by the template 'for every input the law returns true; each argument reads behind the call as it read before'; 0 by the template 'total and deterministic' (their statements: YtdbnglmcimckmaaTotals.lean).
  GIVEN WITH THE SEED: the statements are not yours to turn. If you find one false, say at which input.
  Laid BY PROGRAM, IN A SANDBOX (cutbox-rows.mjs): the forced cells as the released guide's own fill.sh prints them over the translation 7b70fd9bb470b36a… (all of the seat's roots in one cut). By AI agents, Wed Nov 11 2026. No macro, syntax, notation, axiom, sorry.
-/
import Derived.Test.YtdbnglmcimckmaaChecked
import GoSem.Claim
import GoSem.ClaimJoined
import GoSem.ClaimMapViews
import Derived.JoinedTies
import Derived.KernelRfl
namespace Go.Proofs.Ytdbnglmcimckmaa
/- THE CELL 'sum', in the pinned program and in every row, IS THE sha256 OF THE DUMP (.gsa) THAT YtdbnglmcimckmaaProg.lean LOADS. Nothing in Lean hashes anything: it is a label: what it is worth is what the hold of that sum in a sandbox is worth. -/
noncomputable def Try.pinned : Pinned := { name := "ytdbnglmcimckmaa", sum := "7b70fd9bb470b36afd582ebfb1836f5e29797012a98b1423294fb45bff0b3c87", checked := Try.checked }
namespace Rows
def none {H : Type} : Left H := { results := [], args := [] }

/-- 'reelkeeperlaw03.BlockTells': WHATEVER THE INPUT: true; the input reads as it did. -/
def blockTellsSpec : ChangeSpec := { name := "blockTells", fn := fun _ => fun
  | [d1, d2, d3, d4] => { results := [.lit (.bool true)], args := [d1, d2, d3, d4] }
  | _ => none }
def blockTellsRow : OpenClaim := { program := "ytdbnglmcimckmaa", sum := "7b70fd9bb470b36afd582ebfb1836f5e29797012a98b1423294fb45bff0b3c87", func := "reelkeeper/reelkeeperlaw03.BlockTells", spec := "blockTells", unfollowed := true, recurses := true, apart := false }
def BlockTellsSaid : Prop := blockTellsRow.holds Try.pinned (OpenSpec.ofChange blockTellsSpec)

/-- ITS FALSE NEIGHBOUR: 'it returns false'. Refute it at one input. -/
def blockTellsWrong : ChangeSpec := { name := "blockTells", fn := fun _ => fun
  | [d1, d2, d3, d4] => { results := [.lit (.bool false)], args := [d1, d2, d3, d4] }
  | _ => none }
def BlockTellsWrongFalsely : Prop := blockTellsRow.holds Try.pinned (OpenSpec.ofChange blockTellsWrong)

/-- 'reelkeeperlaw03.BlockBack': WHATEVER THE INPUT: true; the input reads as it did. -/
def blockBackSpec : ChangeSpec := { name := "blockBack", fn := fun _ => fun
  | [d1, d2] => { results := [.lit (.bool true)], args := [d1, d2] }
  | _ => none }
def blockBackRow : OpenClaim := { program := "ytdbnglmcimckmaa", sum := "7b70fd9bb470b36afd582ebfb1836f5e29797012a98b1423294fb45bff0b3c87", func := "reelkeeper/reelkeeperlaw03.BlockBack", spec := "blockBack", unfollowed := true, recurses := true, apart := false }
def BlockBackSaid : Prop := blockBackRow.holds Try.pinned (OpenSpec.ofChange blockBackSpec)

/-- ITS FALSE NEIGHBOUR: 'it returns false'. Refute it at one input. -/
def blockBackWrong : ChangeSpec := { name := "blockBack", fn := fun _ => fun
  | [d1, d2] => { results := [.lit (.bool false)], args := [d1, d2] }
  | _ => none }
def BlockBackWrongFalsely : Prop := blockBackRow.holds Try.pinned (OpenSpec.ofChange blockBackWrong)

/-- 'reelkeeperlaw03.BlockMany': WHATEVER THE INPUT: true; the input reads as it did. -/
def blockManySpec : ChangeSpec := { name := "blockMany", fn := fun _ => fun
  | [d] => { results := [.lit (.bool true)], args := [d] }
  | _ => none }
def blockManyRow : OpenClaim := { program := "ytdbnglmcimckmaa", sum := "7b70fd9bb470b36afd582ebfb1836f5e29797012a98b1423294fb45bff0b3c87", func := "reelkeeper/reelkeeperlaw03.BlockMany", spec := "blockMany", unfollowed := true, recurses := true, apart := false }
def BlockManySaid : Prop := blockManyRow.holds Try.pinned (OpenSpec.ofChange blockManySpec)

/-- ITS FALSE NEIGHBOUR: 'it returns false'. Refute it at one input. -/
def blockManyWrong : ChangeSpec := { name := "blockMany", fn := fun _ => fun
  | [d] => { results := [.lit (.bool false)], args := [d] }
  | _ => none }
def BlockManyWrongFalsely : Prop := blockManyRow.holds Try.pinned (OpenSpec.ofChange blockManyWrong)

/-- 'reelkeeperlaw03.BlockText': WHATEVER THE INPUT: true; the input reads as it did. -/
def blockTextSpec : ChangeSpec := { name := "blockText", fn := fun _ => fun
  | [d1, d2, d3] => { results := [.lit (.bool true)], args := [d1, d2, d3] }
  | _ => none }
def blockTextRow : OpenClaim := { program := "ytdbnglmcimckmaa", sum := "7b70fd9bb470b36afd582ebfb1836f5e29797012a98b1423294fb45bff0b3c87", func := "reelkeeper/reelkeeperlaw03.BlockText", spec := "blockText", unfollowed := true, recurses := true, apart := false }
def BlockTextSaid : Prop := blockTextRow.holds Try.pinned (OpenSpec.ofChange blockTextSpec)

/-- ITS FALSE NEIGHBOUR: 'it returns false'. Refute it at one input. -/
def blockTextWrong : ChangeSpec := { name := "blockText", fn := fun _ => fun
  | [d1, d2, d3] => { results := [.lit (.bool false)], args := [d1, d2, d3] }
  | _ => none }
def BlockTextWrongFalsely : Prop := blockTextRow.holds Try.pinned (OpenSpec.ofChange blockTextWrong)

/-- 'reelkeeperlaw03.BlockZeros': WHATEVER THE INPUT: true; the input reads as it did. -/
def blockZerosSpec : ChangeSpec := { name := "blockZeros", fn := fun _ => fun
  | [d1, d2] => { results := [.lit (.bool true)], args := [d1, d2] }
  | _ => none }
def blockZerosRow : OpenClaim := { program := "ytdbnglmcimckmaa", sum := "7b70fd9bb470b36afd582ebfb1836f5e29797012a98b1423294fb45bff0b3c87", func := "reelkeeper/reelkeeperlaw03.BlockZeros", spec := "blockZeros", unfollowed := true, recurses := true, apart := false }
def BlockZerosSaid : Prop := blockZerosRow.holds Try.pinned (OpenSpec.ofChange blockZerosSpec)

/-- ITS FALSE NEIGHBOUR: 'it returns false'. Refute it at one input. -/
def blockZerosWrong : ChangeSpec := { name := "blockZeros", fn := fun _ => fun
  | [d1, d2] => { results := [.lit (.bool false)], args := [d1, d2] }
  | _ => none }
def BlockZerosWrongFalsely : Prop := blockZerosRow.holds Try.pinned (OpenSpec.ofChange blockZerosWrong)

/-- 'reelkeeperlaw03.BlockJoin': WHATEVER THE INPUT: true; the input reads as it did. -/
def blockJoinSpec : ChangeSpec := { name := "blockJoin", fn := fun _ => fun
  | [d1, d2] => { results := [.lit (.bool true)], args := [d1, d2] }
  | _ => none }
def blockJoinRow : OpenClaim := { program := "ytdbnglmcimckmaa", sum := "7b70fd9bb470b36afd582ebfb1836f5e29797012a98b1423294fb45bff0b3c87", func := "reelkeeper/reelkeeperlaw03.BlockJoin", spec := "blockJoin", unfollowed := true, recurses := true, apart := false }
def BlockJoinSaid : Prop := blockJoinRow.holds Try.pinned (OpenSpec.ofChange blockJoinSpec)

/-- ITS FALSE NEIGHBOUR: 'it returns false'. Refute it at one input. -/
def blockJoinWrong : ChangeSpec := { name := "blockJoin", fn := fun _ => fun
  | [d1, d2] => { results := [.lit (.bool false)], args := [d1, d2] }
  | _ => none }
def BlockJoinWrongFalsely : Prop := blockJoinRow.holds Try.pinned (OpenSpec.ofChange blockJoinWrong)

/-- 'reelkeeperlaw03.BlockApart': WHATEVER THE INPUT: true; the input reads as it did. -/
def blockApartSpec : ChangeSpec := { name := "blockApart", fn := fun _ => fun
  | [d1, d2, d3] => { results := [.lit (.bool true)], args := [d1, d2, d3] }
  | _ => none }
def blockApartRow : OpenClaim := { program := "ytdbnglmcimckmaa", sum := "7b70fd9bb470b36afd582ebfb1836f5e29797012a98b1423294fb45bff0b3c87", func := "reelkeeper/reelkeeperlaw03.BlockApart", spec := "blockApart", unfollowed := true, recurses := true, apart := false }
def BlockApartSaid : Prop := blockApartRow.holds Try.pinned (OpenSpec.ofChange blockApartSpec)

/-- ITS FALSE NEIGHBOUR: 'it returns false'. Refute it at one input. -/
def blockApartWrong : ChangeSpec := { name := "blockApart", fn := fun _ => fun
  | [d1, d2, d3] => { results := [.lit (.bool false)], args := [d1, d2, d3] }
  | _ => none }
def BlockApartWrongFalsely : Prop := blockApartRow.holds Try.pinned (OpenSpec.ofChange blockApartWrong)

/- THE SECOND FORM. 'bulk': how many values and letters a reading holds, each counted each time it is reached (what is shared counts as often as it is met; a slice's spare places count too). A statement '..UptoSaid' is the law's where the arguments, and the package variables that the reading takes, are together of bulk at most 1048576: NARROWER than '..Said'. Prove '..Said' where nothing that the law and all that it calls make is longer than what came in: it says more and counts as full. Else prove '..UptoSaid'. A law counts once. -/
mutual
def uptoBulk {H : Type} : DataW H → Nat
  | .lit (.string bytes) => bytes.length + 1
  | .lit _ => 1
  | .nil => 1
  | .ptr d => uptoBulk d + 1
  | .slice elems spare => uptoBulkAll elems + uptoBulkAll spare + 1
  | .agg parts => uptoBulkAll parts + 1
  | .iface _ d => uptoBulk d + 1
  | .map entries => uptoBulkEntries entries + 1
  | .held _ => 1
def uptoBulkAll {H : Type} : List (DataW H) → Nat
  | [] => 0
  | d :: r => uptoBulk d + uptoBulkAll r
def uptoBulkEntries {H : Type} : List (Lit × DataW H) → Nat
  | [] => 0
  | x :: r => uptoBulkEntry x + uptoBulkEntries r
def uptoBulkEntry {H : Type} : Lit × DataW H → Nat
  | (.string bytes, d) => bytes.length + uptoBulk d + 1
  | (_, d) => uptoBulk d + 1
 end
def uptoSmall : (H : Type) → List (DataW H) → Bool := fun _ ds => decide (uptoBulkAll ds ≤ 1048576)
def OpenSpec.upto (s : _root_.Go.ChangeSpec) : _root_.Go.OpenSpec := { _root_.Go.OpenSpec.ofChange s with cond := some uptoSmall }

/-- 'reelkeeperlaw03.BlockTells', WHERE WHAT IT READS IS OF BULK AT MOST 1048576: true; the input reads as it did. -/
def blockTellsUptoRow : OpenClaim := { program := "ytdbnglmcimckmaa", sum := "7b70fd9bb470b36afd582ebfb1836f5e29797012a98b1423294fb45bff0b3c87", func := "reelkeeper/reelkeeperlaw03.BlockTells", spec := "blockTells", unfollowed := true, recurses := true, apart := false, narrowed := true }
def BlockTellsUptoSaid : Prop := blockTellsUptoRow.holds Try.pinned (OpenSpec.upto blockTellsSpec)

/-- 'reelkeeperlaw03.BlockBack', WHERE WHAT IT READS IS OF BULK AT MOST 1048576: true; the input reads as it did. -/
def blockBackUptoRow : OpenClaim := { program := "ytdbnglmcimckmaa", sum := "7b70fd9bb470b36afd582ebfb1836f5e29797012a98b1423294fb45bff0b3c87", func := "reelkeeper/reelkeeperlaw03.BlockBack", spec := "blockBack", unfollowed := true, recurses := true, apart := false, narrowed := true }
def BlockBackUptoSaid : Prop := blockBackUptoRow.holds Try.pinned (OpenSpec.upto blockBackSpec)

/-- 'reelkeeperlaw03.BlockMany', WHERE WHAT IT READS IS OF BULK AT MOST 1048576: true; the input reads as it did. -/
def blockManyUptoRow : OpenClaim := { program := "ytdbnglmcimckmaa", sum := "7b70fd9bb470b36afd582ebfb1836f5e29797012a98b1423294fb45bff0b3c87", func := "reelkeeper/reelkeeperlaw03.BlockMany", spec := "blockMany", unfollowed := true, recurses := true, apart := false, narrowed := true }
def BlockManyUptoSaid : Prop := blockManyUptoRow.holds Try.pinned (OpenSpec.upto blockManySpec)

/-- 'reelkeeperlaw03.BlockText', WHERE WHAT IT READS IS OF BULK AT MOST 1048576: true; the input reads as it did. -/
def blockTextUptoRow : OpenClaim := { program := "ytdbnglmcimckmaa", sum := "7b70fd9bb470b36afd582ebfb1836f5e29797012a98b1423294fb45bff0b3c87", func := "reelkeeper/reelkeeperlaw03.BlockText", spec := "blockText", unfollowed := true, recurses := true, apart := false, narrowed := true }
def BlockTextUptoSaid : Prop := blockTextUptoRow.holds Try.pinned (OpenSpec.upto blockTextSpec)

/-- 'reelkeeperlaw03.BlockZeros', WHERE WHAT IT READS IS OF BULK AT MOST 1048576: true; the input reads as it did. -/
def blockZerosUptoRow : OpenClaim := { program := "ytdbnglmcimckmaa", sum := "7b70fd9bb470b36afd582ebfb1836f5e29797012a98b1423294fb45bff0b3c87", func := "reelkeeper/reelkeeperlaw03.BlockZeros", spec := "blockZeros", unfollowed := true, recurses := true, apart := false, narrowed := true }
def BlockZerosUptoSaid : Prop := blockZerosUptoRow.holds Try.pinned (OpenSpec.upto blockZerosSpec)

/-- 'reelkeeperlaw03.BlockJoin', WHERE WHAT IT READS IS OF BULK AT MOST 1048576: true; the input reads as it did. -/
def blockJoinUptoRow : OpenClaim := { program := "ytdbnglmcimckmaa", sum := "7b70fd9bb470b36afd582ebfb1836f5e29797012a98b1423294fb45bff0b3c87", func := "reelkeeper/reelkeeperlaw03.BlockJoin", spec := "blockJoin", unfollowed := true, recurses := true, apart := false, narrowed := true }
def BlockJoinUptoSaid : Prop := blockJoinUptoRow.holds Try.pinned (OpenSpec.upto blockJoinSpec)

/-- 'reelkeeperlaw03.BlockApart', WHERE WHAT IT READS IS OF BULK AT MOST 1048576: true; the input reads as it did. -/
def blockApartUptoRow : OpenClaim := { program := "ytdbnglmcimckmaa", sum := "7b70fd9bb470b36afd582ebfb1836f5e29797012a98b1423294fb45bff0b3c87", func := "reelkeeper/reelkeeperlaw03.BlockApart", spec := "blockApart", unfollowed := true, recurses := true, apart := false, narrowed := true }
def BlockApartUptoSaid : Prop := blockApartUptoRow.holds Try.pinned (OpenSpec.upto blockApartSpec)

end Rows
end Go.Proofs.Ytdbnglmcimckmaa
