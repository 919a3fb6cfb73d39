/-
  No cell of these rows narrows 'for every input' (looked for: loops, veiled, ifaces, maps, wideKeys, modest, calm, conditions, laid).
  DERIVED. THE GIVEN ROWS OF THIS SEAT. 12 by the template 'for every input the law returns true; each argument reads behind the call as it read before'; 0 by the template 'total and deterministic' (their statements: YtpkapldkmleppaaTotals.lean).
  GIVEN WITH THE SEED: the statements are not yours to turn. If you find one false, say at which input.
  Laid BY PROGRAM, IN A SANDBOX (cutbox-rows.mjs): the forced cells as the released guide's own fill.sh prints them over the translation f81f2b624b7a2722… (all of the seat's roots in one cut). By AI agents, Wed Nov 11 2026. No macro, syntax, notation, axiom, sorry.
-/
import Derived.Test.YtpkapldkmleppaaChecked
import GoSem.Claim
import GoSem.ClaimJoined
import GoSem.ClaimMapViews
import Derived.JoinedTies
import Derived.KernelRfl
namespace Go.Proofs.Ytpkapldkmleppaa
/- THE CELL 'sum', in the pinned program and in every row, IS THE sha256 OF THE DUMP (.gsa) THAT YtpkapldkmleppaaProg.lean LOADS. Nothing in Lean hashes anything: it is a label: what it is worth is what the hold of that sum in a sandbox is worth. -/
noncomputable def Try.pinned : Pinned := { name := "ytpkapldkmleppaa", sum := "f81f2b624b7a2722705d63c769d6d82fbc588745939c6f0e3ebf5d06af66d618", checked := Try.checked }
namespace Rows
def none {H : Type} : Left H := { results := [], args := [] }

/-- 'weirkeeperlaw06.BlockBack': WHATEVER THE INPUT: true; the input reads as it did. -/
def blockBackSpec : ChangeSpec := { name := "blockBack", fn := fun _ => fun
  | [d1, d2, d3, d4, d5] => { results := [.lit (.bool true)], args := [d1, d2, d3, d4, d5] }
  | _ => none }
def blockBackRow : OpenClaim := { program := "ytpkapldkmleppaa", sum := "f81f2b624b7a2722705d63c769d6d82fbc588745939c6f0e3ebf5d06af66d618", func := "weirkeeper/weirkeeperlaw06.BlockBack", spec := "blockBack", inPlace := ["internal/abi.NoEscape", "internal/bytealg.MakeNoZero"], unfollowed := true, recurses := true, apart := false }
def BlockBackSaid : Prop := blockBackRow.holds Try.pinned (OpenSpec.ofChange blockBackSpec)

/-- ITS FALSE NEIGHBOUR: 'it returns false'. Refute it at one input. -/
def blockBackWrong : ChangeSpec := { name := "blockBack", fn := fun _ => fun
  | [d1, d2, d3, d4, d5] => { results := [.lit (.bool false)], args := [d1, d2, d3, d4, d5] }
  | _ => none }
def BlockBackWrongFalsely : Prop := blockBackRow.holds Try.pinned (OpenSpec.ofChange blockBackWrong)

/-- 'weirkeeperlaw06.BlockBroken': WHATEVER THE INPUT: true; the input reads as it did. -/
def blockBrokenSpec : ChangeSpec := { name := "blockBroken", fn := fun _ => fun
  | [d1, d2] => { results := [.lit (.bool true)], args := [d1, d2] }
  | _ => none }
def blockBrokenRow : OpenClaim := { program := "ytpkapldkmleppaa", sum := "f81f2b624b7a2722705d63c769d6d82fbc588745939c6f0e3ebf5d06af66d618", func := "weirkeeper/weirkeeperlaw06.BlockBroken", spec := "blockBroken", inPlace := ["internal/abi.NoEscape", "internal/bytealg.MakeNoZero"], unfollowed := true, recurses := true, apart := false }
def BlockBrokenSaid : Prop := blockBrokenRow.holds Try.pinned (OpenSpec.ofChange blockBrokenSpec)

/-- ITS FALSE NEIGHBOUR: 'it returns false'. Refute it at one input. -/
def blockBrokenWrong : ChangeSpec := { name := "blockBroken", fn := fun _ => fun
  | [d1, d2] => { results := [.lit (.bool false)], args := [d1, d2] }
  | _ => none }
def BlockBrokenWrongFalsely : Prop := blockBrokenRow.holds Try.pinned (OpenSpec.ofChange blockBrokenWrong)

/-- 'weirkeeperlaw06.BlockCuts': WHATEVER THE INPUT: true; the input reads as it did. -/
def blockCutsSpec : ChangeSpec := { name := "blockCuts", fn := fun _ => fun
  | [d] => { results := [.lit (.bool true)], args := [d] }
  | _ => none }
def blockCutsRow : OpenClaim := { program := "ytpkapldkmleppaa", sum := "f81f2b624b7a2722705d63c769d6d82fbc588745939c6f0e3ebf5d06af66d618", func := "weirkeeper/weirkeeperlaw06.BlockCuts", spec := "blockCuts", inPlace := ["internal/abi.NoEscape", "internal/bytealg.MakeNoZero"], unfollowed := true, recurses := true, apart := false }
def BlockCutsSaid : Prop := blockCutsRow.holds Try.pinned (OpenSpec.ofChange blockCutsSpec)

/-- ITS FALSE NEIGHBOUR: 'it returns false'. Refute it at one input. -/
def blockCutsWrong : ChangeSpec := { name := "blockCuts", fn := fun _ => fun
  | [d] => { results := [.lit (.bool false)], args := [d] }
  | _ => none }
def BlockCutsWrongFalsely : Prop := blockCutsRow.holds Try.pinned (OpenSpec.ofChange blockCutsWrong)

/-- 'weirkeeperlaw06.BlockNeeds': WHATEVER THE INPUT: true; the input reads as it did. -/
def blockNeedsSpec : ChangeSpec := { name := "blockNeeds", fn := fun _ => fun
  | [d1, d2] => { results := [.lit (.bool true)], args := [d1, d2] }
  | _ => none }
def blockNeedsRow : OpenClaim := { program := "ytpkapldkmleppaa", sum := "f81f2b624b7a2722705d63c769d6d82fbc588745939c6f0e3ebf5d06af66d618", func := "weirkeeper/weirkeeperlaw06.BlockNeeds", spec := "blockNeeds", inPlace := ["internal/abi.NoEscape", "internal/bytealg.MakeNoZero"], unfollowed := true, recurses := true, apart := false }
def BlockNeedsSaid : Prop := blockNeedsRow.holds Try.pinned (OpenSpec.ofChange blockNeedsSpec)

/-- ITS FALSE NEIGHBOUR: 'it returns false'. Refute it at one input. -/
def blockNeedsWrong : ChangeSpec := { name := "blockNeeds", fn := fun _ => fun
  | [d1, d2] => { results := [.lit (.bool false)], args := [d1, d2] }
  | _ => none }
def BlockNeedsWrongFalsely : Prop := blockNeedsRow.holds Try.pinned (OpenSpec.ofChange blockNeedsWrong)

/-- 'weirkeeperlaw06.BlockApart': WHATEVER THE INPUT: true; the input reads as it did. -/
def blockApartSpec : ChangeSpec := { name := "blockApart", fn := fun _ => fun
  | [d1, d2, d3] => { results := [.lit (.bool true)], args := [d1, d2, d3] }
  | _ => none }
def blockApartRow : OpenClaim := { program := "ytpkapldkmleppaa", sum := "f81f2b624b7a2722705d63c769d6d82fbc588745939c6f0e3ebf5d06af66d618", func := "weirkeeper/weirkeeperlaw06.BlockApart", spec := "blockApart", inPlace := ["internal/abi.NoEscape", "internal/bytealg.MakeNoZero"], unfollowed := true, recurses := true, apart := false }
def BlockApartSaid : Prop := blockApartRow.holds Try.pinned (OpenSpec.ofChange blockApartSpec)

/-- ITS FALSE NEIGHBOUR: 'it returns false'. Refute it at one input. -/
def blockApartWrong : ChangeSpec := { name := "blockApart", fn := fun _ => fun
  | [d1, d2, d3] => { results := [.lit (.bool false)], args := [d1, d2, d3] }
  | _ => none }
def BlockApartWrongFalsely : Prop := blockApartRow.holds Try.pinned (OpenSpec.ofChange blockApartWrong)

/-- 'weirkeeperlaw08.JournalParses': WHATEVER THE INPUT: true; the input reads as it did. -/
def journalParsesSpec : ChangeSpec := { name := "journalParses", fn := fun _ => fun
  | [d1, d2, d3, d4] => { results := [.lit (.bool true)], args := [d1, d2, d3, d4] }
  | _ => none }
def journalParsesRow : OpenClaim := { program := "ytpkapldkmleppaa", sum := "f81f2b624b7a2722705d63c769d6d82fbc588745939c6f0e3ebf5d06af66d618", func := "weirkeeper/weirkeeperlaw08.JournalParses", spec := "journalParses", inPlace := ["internal/abi.NoEscape", "internal/bytealg.MakeNoZero"], unfollowed := true, recurses := true, apart := false }
def JournalParsesSaid : Prop := journalParsesRow.holds Try.pinned (OpenSpec.ofChange journalParsesSpec)

/-- ITS FALSE NEIGHBOUR: 'it returns false'. Refute it at one input. -/
def journalParsesWrong : ChangeSpec := { name := "journalParses", fn := fun _ => fun
  | [d1, d2, d3, d4] => { results := [.lit (.bool false)], args := [d1, d2, d3, d4] }
  | _ => none }
def JournalParsesWrongFalsely : Prop := journalParsesRow.holds Try.pinned (OpenSpec.ofChange journalParsesWrong)

/-- 'weirkeeperlaw08.JournalTells': WHATEVER THE INPUT: true; the input reads as it did. -/
def journalTellsSpec : ChangeSpec := { name := "journalTells", fn := fun _ => fun
  | [d1, d2, d3, d4] => { results := [.lit (.bool true)], args := [d1, d2, d3, d4] }
  | _ => none }
def journalTellsRow : OpenClaim := { program := "ytpkapldkmleppaa", sum := "f81f2b624b7a2722705d63c769d6d82fbc588745939c6f0e3ebf5d06af66d618", func := "weirkeeper/weirkeeperlaw08.JournalTells", spec := "journalTells", inPlace := ["internal/abi.NoEscape", "internal/bytealg.MakeNoZero"], unfollowed := true, recurses := true, apart := false }
def JournalTellsSaid : Prop := journalTellsRow.holds Try.pinned (OpenSpec.ofChange journalTellsSpec)

/-- ITS FALSE NEIGHBOUR: 'it returns false'. Refute it at one input. -/
def journalTellsWrong : ChangeSpec := { name := "journalTells", fn := fun _ => fun
  | [d1, d2, d3, d4] => { results := [.lit (.bool false)], args := [d1, d2, d3, d4] }
  | _ => none }
def JournalTellsWrongFalsely : Prop := journalTellsRow.holds Try.pinned (OpenSpec.ofChange journalTellsWrong)

/-- 'weirkeeperlaw08.JournalBack': WHATEVER THE INPUT: true; the input reads as it did. -/
def journalBackSpec : ChangeSpec := { name := "journalBack", fn := fun _ => fun
  | [d1, d2] => { results := [.lit (.bool true)], args := [d1, d2] }
  | _ => none }
def journalBackRow : OpenClaim := { program := "ytpkapldkmleppaa", sum := "f81f2b624b7a2722705d63c769d6d82fbc588745939c6f0e3ebf5d06af66d618", func := "weirkeeper/weirkeeperlaw08.JournalBack", spec := "journalBack", inPlace := ["internal/abi.NoEscape", "internal/bytealg.MakeNoZero"], unfollowed := true, recurses := true, apart := false }
def JournalBackSaid : Prop := journalBackRow.holds Try.pinned (OpenSpec.ofChange journalBackSpec)

/-- ITS FALSE NEIGHBOUR: 'it returns false'. Refute it at one input. -/
def journalBackWrong : ChangeSpec := { name := "journalBack", fn := fun _ => fun
  | [d1, d2] => { results := [.lit (.bool false)], args := [d1, d2] }
  | _ => none }
def JournalBackWrongFalsely : Prop := journalBackRow.holds Try.pinned (OpenSpec.ofChange journalBackWrong)

/-- 'weirkeeperlaw08.JournalOnce': WHATEVER THE INPUT: true; the input reads as it did. -/
def journalOnceSpec : ChangeSpec := { name := "journalOnce", fn := fun _ => fun
  | [d1, d2] => { results := [.lit (.bool true)], args := [d1, d2] }
  | _ => none }
def journalOnceRow : OpenClaim := { program := "ytpkapldkmleppaa", sum := "f81f2b624b7a2722705d63c769d6d82fbc588745939c6f0e3ebf5d06af66d618", func := "weirkeeper/weirkeeperlaw08.JournalOnce", spec := "journalOnce", inPlace := ["internal/abi.NoEscape", "internal/bytealg.MakeNoZero"], unfollowed := true, recurses := true, apart := false }
def JournalOnceSaid : Prop := journalOnceRow.holds Try.pinned (OpenSpec.ofChange journalOnceSpec)

/-- ITS FALSE NEIGHBOUR: 'it returns false'. Refute it at one input. -/
def journalOnceWrong : ChangeSpec := { name := "journalOnce", fn := fun _ => fun
  | [d1, d2] => { results := [.lit (.bool false)], args := [d1, d2] }
  | _ => none }
def JournalOnceWrongFalsely : Prop := journalOnceRow.holds Try.pinned (OpenSpec.ofChange journalOnceWrong)

/-- 'weirkeeperlaw08.JournalNeeds': WHATEVER THE INPUT: true; the input reads as it did. -/
def journalNeedsSpec : ChangeSpec := { name := "journalNeeds", fn := fun _ => fun
  | [d1, d2, d3] => { results := [.lit (.bool true)], args := [d1, d2, d3] }
  | _ => none }
def journalNeedsRow : OpenClaim := { program := "ytpkapldkmleppaa", sum := "f81f2b624b7a2722705d63c769d6d82fbc588745939c6f0e3ebf5d06af66d618", func := "weirkeeper/weirkeeperlaw08.JournalNeeds", spec := "journalNeeds", inPlace := ["internal/abi.NoEscape", "internal/bytealg.MakeNoZero"], unfollowed := true, recurses := true, apart := false }
def JournalNeedsSaid : Prop := journalNeedsRow.holds Try.pinned (OpenSpec.ofChange journalNeedsSpec)

/-- ITS FALSE NEIGHBOUR: 'it returns false'. Refute it at one input. -/
def journalNeedsWrong : ChangeSpec := { name := "journalNeeds", fn := fun _ => fun
  | [d1, d2, d3] => { results := [.lit (.bool false)], args := [d1, d2, d3] }
  | _ => none }
def JournalNeedsWrongFalsely : Prop := journalNeedsRow.holds Try.pinned (OpenSpec.ofChange journalNeedsWrong)

/-- 'weirkeeperlaw08.JournalAnew': WHATEVER THE INPUT: true; the input reads as it did. -/
def journalAnewSpec : ChangeSpec := { name := "journalAnew", fn := fun _ => fun
  | [d1, d2, d3] => { results := [.lit (.bool true)], args := [d1, d2, d3] }
  | _ => none }
def journalAnewRow : OpenClaim := { program := "ytpkapldkmleppaa", sum := "f81f2b624b7a2722705d63c769d6d82fbc588745939c6f0e3ebf5d06af66d618", func := "weirkeeper/weirkeeperlaw08.JournalAnew", spec := "journalAnew", inPlace := ["internal/abi.NoEscape", "internal/bytealg.MakeNoZero"], unfollowed := true, recurses := true, apart := false }
def JournalAnewSaid : Prop := journalAnewRow.holds Try.pinned (OpenSpec.ofChange journalAnewSpec)

/-- ITS FALSE NEIGHBOUR: 'it returns false'. Refute it at one input. -/
def journalAnewWrong : ChangeSpec := { name := "journalAnew", fn := fun _ => fun
  | [d1, d2, d3] => { results := [.lit (.bool false)], args := [d1, d2, d3] }
  | _ => none }
def JournalAnewWrongFalsely : Prop := journalAnewRow.holds Try.pinned (OpenSpec.ofChange journalAnewWrong)

/-- 'weirkeeperlaw08.JournalCrashes': WHATEVER THE INPUT: true; the input reads as it did. -/
def journalCrashesSpec : ChangeSpec := { name := "journalCrashes", fn := fun _ => fun
  | [d1, d2, d3, d4, d5] => { results := [.lit (.bool true)], args := [d1, d2, d3, d4, d5] }
  | _ => none }
def journalCrashesRow : OpenClaim := { program := "ytpkapldkmleppaa", sum := "f81f2b624b7a2722705d63c769d6d82fbc588745939c6f0e3ebf5d06af66d618", func := "weirkeeper/weirkeeperlaw08.JournalCrashes", spec := "journalCrashes", inPlace := ["internal/abi.NoEscape", "internal/bytealg.MakeNoZero"], unfollowed := true, recurses := true, apart := false }
def JournalCrashesSaid : Prop := journalCrashesRow.holds Try.pinned (OpenSpec.ofChange journalCrashesSpec)

/-- ITS FALSE NEIGHBOUR: 'it returns false'. Refute it at one input. -/
def journalCrashesWrong : ChangeSpec := { name := "journalCrashes", fn := fun _ => fun
  | [d1, d2, d3, d4, d5] => { results := [.lit (.bool false)], args := [d1, d2, d3, d4, d5] }
  | _ => none }
def JournalCrashesWrongFalsely : Prop := journalCrashesRow.holds Try.pinned (OpenSpec.ofChange journalCrashesWrong)

/- THE SECOND FORM. 'bulk': how many values and letters a reading holds, each counted each time it is reached (what is shared counts as often as it is met; a slice's spare places count too). A statement '..UptoSaid' is the law's where the arguments, and the package variables that the reading takes, are together of bulk at most 1048576: NARROWER than '..Said'. Prove '..Said' where nothing that the law and all that it calls make is longer than what came in: it says more and counts as full. Else prove '..UptoSaid'. A law counts once. -/
mutual
def uptoBulk {H : Type} : DataW H → Nat
  | .lit (.string bytes) => bytes.length + 1
  | .lit _ => 1
  | .nil => 1
  | .ptr d => uptoBulk d + 1
  | .slice elems spare => uptoBulkAll elems + uptoBulkAll spare + 1
  | .agg parts => uptoBulkAll parts + 1
  | .iface _ d => uptoBulk d + 1
  | .map entries => uptoBulkEntries entries + 1
  | .held _ => 1
def uptoBulkAll {H : Type} : List (DataW H) → Nat
  | [] => 0
  | d :: r => uptoBulk d + uptoBulkAll r
def uptoBulkEntries {H : Type} : List (Lit × DataW H) → Nat
  | [] => 0
  | x :: r => uptoBulkEntry x + uptoBulkEntries r
def uptoBulkEntry {H : Type} : Lit × DataW H → Nat
  | (.string bytes, d) => bytes.length + uptoBulk d + 1
  | (_, d) => uptoBulk d + 1
 end
def uptoSmall : (H : Type) → List (DataW H) → Bool := fun _ ds => decide (uptoBulkAll ds ≤ 1048576)
def OpenSpec.upto (s : _root_.Go.ChangeSpec) : _root_.Go.OpenSpec := { _root_.Go.OpenSpec.ofChange s with cond := some uptoSmall }

/-- 'weirkeeperlaw06.BlockBack', WHERE WHAT IT READS IS OF BULK AT MOST 1048576: true; the input reads as it did. -/
def blockBackUptoRow : OpenClaim := { program := "ytpkapldkmleppaa", sum := "f81f2b624b7a2722705d63c769d6d82fbc588745939c6f0e3ebf5d06af66d618", func := "weirkeeper/weirkeeperlaw06.BlockBack", spec := "blockBack", inPlace := ["internal/abi.NoEscape", "internal/bytealg.MakeNoZero"], unfollowed := true, recurses := true, apart := false, narrowed := true }
def BlockBackUptoSaid : Prop := blockBackUptoRow.holds Try.pinned (OpenSpec.upto blockBackSpec)

/-- 'weirkeeperlaw06.BlockBroken', WHERE WHAT IT READS IS OF BULK AT MOST 1048576: true; the input reads as it did. -/
def blockBrokenUptoRow : OpenClaim := { program := "ytpkapldkmleppaa", sum := "f81f2b624b7a2722705d63c769d6d82fbc588745939c6f0e3ebf5d06af66d618", func := "weirkeeper/weirkeeperlaw06.BlockBroken", spec := "blockBroken", inPlace := ["internal/abi.NoEscape", "internal/bytealg.MakeNoZero"], unfollowed := true, recurses := true, apart := false, narrowed := true }
def BlockBrokenUptoSaid : Prop := blockBrokenUptoRow.holds Try.pinned (OpenSpec.upto blockBrokenSpec)

/-- 'weirkeeperlaw06.BlockCuts', WHERE WHAT IT READS IS OF BULK AT MOST 1048576: true; the input reads as it did. -/
def blockCutsUptoRow : OpenClaim := { program := "ytpkapldkmleppaa", sum := "f81f2b624b7a2722705d63c769d6d82fbc588745939c6f0e3ebf5d06af66d618", func := "weirkeeper/weirkeeperlaw06.BlockCuts", spec := "blockCuts", inPlace := ["internal/abi.NoEscape", "internal/bytealg.MakeNoZero"], unfollowed := true, recurses := true, apart := false, narrowed := true }
def BlockCutsUptoSaid : Prop := blockCutsUptoRow.holds Try.pinned (OpenSpec.upto blockCutsSpec)

/-- 'weirkeeperlaw06.BlockNeeds', WHERE WHAT IT READS IS OF BULK AT MOST 1048576: true; the input reads as it did. -/
def blockNeedsUptoRow : OpenClaim := { program := "ytpkapldkmleppaa", sum := "f81f2b624b7a2722705d63c769d6d82fbc588745939c6f0e3ebf5d06af66d618", func := "weirkeeper/weirkeeperlaw06.BlockNeeds", spec := "blockNeeds", inPlace := ["internal/abi.NoEscape", "internal/bytealg.MakeNoZero"], unfollowed := true, recurses := true, apart := false, narrowed := true }
def BlockNeedsUptoSaid : Prop := blockNeedsUptoRow.holds Try.pinned (OpenSpec.upto blockNeedsSpec)

/-- 'weirkeeperlaw06.BlockApart', WHERE WHAT IT READS IS OF BULK AT MOST 1048576: true; the input reads as it did. -/
def blockApartUptoRow : OpenClaim := { program := "ytpkapldkmleppaa", sum := "f81f2b624b7a2722705d63c769d6d82fbc588745939c6f0e3ebf5d06af66d618", func := "weirkeeper/weirkeeperlaw06.BlockApart", spec := "blockApart", inPlace := ["internal/abi.NoEscape", "internal/bytealg.MakeNoZero"], unfollowed := true, recurses := true, apart := false, narrowed := true }
def BlockApartUptoSaid : Prop := blockApartUptoRow.holds Try.pinned (OpenSpec.upto blockApartSpec)

/-- 'weirkeeperlaw08.JournalParses', WHERE WHAT IT READS IS OF BULK AT MOST 1048576: true; the input reads as it did. -/
def journalParsesUptoRow : OpenClaim := { program := "ytpkapldkmleppaa", sum := "f81f2b624b7a2722705d63c769d6d82fbc588745939c6f0e3ebf5d06af66d618", func := "weirkeeper/weirkeeperlaw08.JournalParses", spec := "journalParses", inPlace := ["internal/abi.NoEscape", "internal/bytealg.MakeNoZero"], unfollowed := true, recurses := true, apart := false, narrowed := true }
def JournalParsesUptoSaid : Prop := journalParsesUptoRow.holds Try.pinned (OpenSpec.upto journalParsesSpec)

/-- 'weirkeeperlaw08.JournalTells', WHERE WHAT IT READS IS OF BULK AT MOST 1048576: true; the input reads as it did. -/
def journalTellsUptoRow : OpenClaim := { program := "ytpkapldkmleppaa", sum := "f81f2b624b7a2722705d63c769d6d82fbc588745939c6f0e3ebf5d06af66d618", func := "weirkeeper/weirkeeperlaw08.JournalTells", spec := "journalTells", inPlace := ["internal/abi.NoEscape", "internal/bytealg.MakeNoZero"], unfollowed := true, recurses := true, apart := false, narrowed := true }
def JournalTellsUptoSaid : Prop := journalTellsUptoRow.holds Try.pinned (OpenSpec.upto journalTellsSpec)

/-- 'weirkeeperlaw08.JournalBack', WHERE WHAT IT READS IS OF BULK AT MOST 1048576: true; the input reads as it did. -/
def journalBackUptoRow : OpenClaim := { program := "ytpkapldkmleppaa", sum := "f81f2b624b7a2722705d63c769d6d82fbc588745939c6f0e3ebf5d06af66d618", func := "weirkeeper/weirkeeperlaw08.JournalBack", spec := "journalBack", inPlace := ["internal/abi.NoEscape", "internal/bytealg.MakeNoZero"], unfollowed := true, recurses := true, apart := false, narrowed := true }
def JournalBackUptoSaid : Prop := journalBackUptoRow.holds Try.pinned (OpenSpec.upto journalBackSpec)

/-- 'weirkeeperlaw08.JournalOnce', WHERE WHAT IT READS IS OF BULK AT MOST 1048576: true; the input reads as it did. -/
def journalOnceUptoRow : OpenClaim := { program := "ytpkapldkmleppaa", sum := "f81f2b624b7a2722705d63c769d6d82fbc588745939c6f0e3ebf5d06af66d618", func := "weirkeeper/weirkeeperlaw08.JournalOnce", spec := "journalOnce", inPlace := ["internal/abi.NoEscape", "internal/bytealg.MakeNoZero"], unfollowed := true, recurses := true, apart := false, narrowed := true }
def JournalOnceUptoSaid : Prop := journalOnceUptoRow.holds Try.pinned (OpenSpec.upto journalOnceSpec)

/-- 'weirkeeperlaw08.JournalNeeds', WHERE WHAT IT READS IS OF BULK AT MOST 1048576: true; the input reads as it did. -/
def journalNeedsUptoRow : OpenClaim := { program := "ytpkapldkmleppaa", sum := "f81f2b624b7a2722705d63c769d6d82fbc588745939c6f0e3ebf5d06af66d618", func := "weirkeeper/weirkeeperlaw08.JournalNeeds", spec := "journalNeeds", inPlace := ["internal/abi.NoEscape", "internal/bytealg.MakeNoZero"], unfollowed := true, recurses := true, apart := false, narrowed := true }
def JournalNeedsUptoSaid : Prop := journalNeedsUptoRow.holds Try.pinned (OpenSpec.upto journalNeedsSpec)

/-- 'weirkeeperlaw08.JournalAnew', WHERE WHAT IT READS IS OF BULK AT MOST 1048576: true; the input reads as it did. -/
def journalAnewUptoRow : OpenClaim := { program := "ytpkapldkmleppaa", sum := "f81f2b624b7a2722705d63c769d6d82fbc588745939c6f0e3ebf5d06af66d618", func := "weirkeeper/weirkeeperlaw08.JournalAnew", spec := "journalAnew", inPlace := ["internal/abi.NoEscape", "internal/bytealg.MakeNoZero"], unfollowed := true, recurses := true, apart := false, narrowed := true }
def JournalAnewUptoSaid : Prop := journalAnewUptoRow.holds Try.pinned (OpenSpec.upto journalAnewSpec)

/-- 'weirkeeperlaw08.JournalCrashes', WHERE WHAT IT READS IS OF BULK AT MOST 1048576: true; the input reads as it did. -/
def journalCrashesUptoRow : OpenClaim := { program := "ytpkapldkmleppaa", sum := "f81f2b624b7a2722705d63c769d6d82fbc588745939c6f0e3ebf5d06af66d618", func := "weirkeeper/weirkeeperlaw08.JournalCrashes", spec := "journalCrashes", inPlace := ["internal/abi.NoEscape", "internal/bytealg.MakeNoZero"], unfollowed := true, recurses := true, apart := false, narrowed := true }
def JournalCrashesUptoSaid : Prop := journalCrashesUptoRow.holds Try.pinned (OpenSpec.upto journalCrashesSpec)

end Rows
end Go.Proofs.Ytpkapldkmleppaa
