/-
  No cell of these rows narrows 'for every input' (looked for: loops, veiled, ifaces, maps, wideKeys, modest, calm, conditions, laid).
  DERIVED. THE GIVEN ROWS OF THIS SEAT. 10 by the template 'for every input the law returns true; each argument reads behind the call as it read before'; 0 by the template 'total and deterministic' (their statements: YthidkdlmpkeogaaTotals.lean).
  GIVEN WITH THE SEED: the statements are not yours to turn. If you find one false, say at which input.
  Laid BY PROGRAM, IN A SANDBOX (cutbox-rows.mjs): the forced cells as the released guide's own fill.sh prints them over the translation 3d6af6856bb22321… (all of the seat's roots in one cut). By AI agents, Wed Nov 11 2026. No macro, syntax, notation, axiom, sorry.
-/
import Derived.Test.YthidkdlmpkeogaaChecked
import GoSem.Claim
import GoSem.ClaimJoined
import GoSem.ClaimMapViews
import Derived.JoinedTies
import Derived.KernelRfl
namespace Go.Proofs.Ythidkdlmpkeogaa
/- THE CELL 'sum', in the pinned program and in every row, IS THE sha256 OF THE DUMP (.gsa) THAT YthidkdlmpkeogaaProg.lean LOADS. Nothing in Lean hashes anything: it is a label: what it is worth is what the hold of that sum in a sandbox is worth. -/
noncomputable def Try.pinned : Pinned := { name := "ythidkdlmpkeogaa", sum := "3d6af6856bb223219f109177c68e7e9739569f8bcd663b520f6bbebdb5c7be05", checked := Try.checked }
namespace Rows
def none {H : Type} : Left H := { results := [], args := [] }

/-- 'weirkeeperlaw13.FlatWrites': WHATEVER THE INPUT: true; the input reads as it did. -/
def flatWritesSpec : ChangeSpec := { name := "flatWrites", fn := fun _ => fun
  | [d1, d2, d3, d4] => { results := [.lit (.bool true)], args := [d1, d2, d3, d4] }
  | _ => none }
def flatWritesRow : OpenClaim := { program := "ythidkdlmpkeogaa", sum := "3d6af6856bb223219f109177c68e7e9739569f8bcd663b520f6bbebdb5c7be05", func := "weirkeeper/weirkeeperlaw13.FlatWrites", spec := "flatWrites", unfollowed := true, recurses := true, apart := false }
def FlatWritesSaid : Prop := flatWritesRow.holds Try.pinned (OpenSpec.ofChange flatWritesSpec)

/-- ITS FALSE NEIGHBOUR: 'it returns false'. Refute it at one input. -/
def flatWritesWrong : ChangeSpec := { name := "flatWrites", fn := fun _ => fun
  | [d1, d2, d3, d4] => { results := [.lit (.bool false)], args := [d1, d2, d3, d4] }
  | _ => none }
def FlatWritesWrongFalsely : Prop := flatWritesRow.holds Try.pinned (OpenSpec.ofChange flatWritesWrong)

/-- 'weirkeeperlaw13.FlatJoins': WHATEVER THE INPUT: true; the input reads as it did. -/
def flatJoinsSpec : ChangeSpec := { name := "flatJoins", fn := fun _ => fun
  | [d1, d2, d3] => { results := [.lit (.bool true)], args := [d1, d2, d3] }
  | _ => none }
def flatJoinsRow : OpenClaim := { program := "ythidkdlmpkeogaa", sum := "3d6af6856bb223219f109177c68e7e9739569f8bcd663b520f6bbebdb5c7be05", func := "weirkeeper/weirkeeperlaw13.FlatJoins", spec := "flatJoins", unfollowed := true, recurses := true, apart := false }
def FlatJoinsSaid : Prop := flatJoinsRow.holds Try.pinned (OpenSpec.ofChange flatJoinsSpec)

/-- ITS FALSE NEIGHBOUR: 'it returns false'. Refute it at one input. -/
def flatJoinsWrong : ChangeSpec := { name := "flatJoins", fn := fun _ => fun
  | [d1, d2, d3] => { results := [.lit (.bool false)], args := [d1, d2, d3] }
  | _ => none }
def FlatJoinsWrongFalsely : Prop := flatJoinsRow.holds Try.pinned (OpenSpec.ofChange flatJoinsWrong)

/-- 'weirkeeperlaw13.FlatTakes': WHATEVER THE INPUT: true; the input reads as it did. -/
def flatTakesSpec : ChangeSpec := { name := "flatTakes", fn := fun _ => fun
  | [d] => { results := [.lit (.bool true)], args := [d] }
  | _ => none }
def flatTakesRow : OpenClaim := { program := "ythidkdlmpkeogaa", sum := "3d6af6856bb223219f109177c68e7e9739569f8bcd663b520f6bbebdb5c7be05", func := "weirkeeper/weirkeeperlaw13.FlatTakes", spec := "flatTakes", unfollowed := true, recurses := true, apart := false }
def FlatTakesSaid : Prop := flatTakesRow.holds Try.pinned (OpenSpec.ofChange flatTakesSpec)

/-- ITS FALSE NEIGHBOUR: 'it returns false'. Refute it at one input. -/
def flatTakesWrong : ChangeSpec := { name := "flatTakes", fn := fun _ => fun
  | [d] => { results := [.lit (.bool false)], args := [d] }
  | _ => none }
def FlatTakesWrongFalsely : Prop := flatTakesRow.holds Try.pinned (OpenSpec.ofChange flatTakesWrong)

/-- 'weirkeeperlaw13.FlatBack': WHATEVER THE INPUT: true; the input reads as it did. -/
def flatBackSpec : ChangeSpec := { name := "flatBack", fn := fun _ => fun
  | [d1, d2, d3, d4, d5] => { results := [.lit (.bool true)], args := [d1, d2, d3, d4, d5] }
  | _ => none }
def flatBackRow : OpenClaim := { program := "ythidkdlmpkeogaa", sum := "3d6af6856bb223219f109177c68e7e9739569f8bcd663b520f6bbebdb5c7be05", func := "weirkeeper/weirkeeperlaw13.FlatBack", spec := "flatBack", unfollowed := true, recurses := true, apart := false }
def FlatBackSaid : Prop := flatBackRow.holds Try.pinned (OpenSpec.ofChange flatBackSpec)

/-- ITS FALSE NEIGHBOUR: 'it returns false'. Refute it at one input. -/
def flatBackWrong : ChangeSpec := { name := "flatBack", fn := fun _ => fun
  | [d1, d2, d3, d4, d5] => { results := [.lit (.bool false)], args := [d1, d2, d3, d4, d5] }
  | _ => none }
def FlatBackWrongFalsely : Prop := flatBackRow.holds Try.pinned (OpenSpec.ofChange flatBackWrong)

/-- 'weirkeeperlaw13.FlatOnce': WHATEVER THE INPUT: true; the input reads as it did. -/
def flatOnceSpec : ChangeSpec := { name := "flatOnce", fn := fun _ => fun
  | [d] => { results := [.lit (.bool true)], args := [d] }
  | _ => none }
def flatOnceRow : OpenClaim := { program := "ythidkdlmpkeogaa", sum := "3d6af6856bb223219f109177c68e7e9739569f8bcd663b520f6bbebdb5c7be05", func := "weirkeeper/weirkeeperlaw13.FlatOnce", spec := "flatOnce", unfollowed := true, recurses := true, apart := false }
def FlatOnceSaid : Prop := flatOnceRow.holds Try.pinned (OpenSpec.ofChange flatOnceSpec)

/-- ITS FALSE NEIGHBOUR: 'it returns false'. Refute it at one input. -/
def flatOnceWrong : ChangeSpec := { name := "flatOnce", fn := fun _ => fun
  | [d] => { results := [.lit (.bool false)], args := [d] }
  | _ => none }
def FlatOnceWrongFalsely : Prop := flatOnceRow.holds Try.pinned (OpenSpec.ofChange flatOnceWrong)

/-- 'weirkeeperlaw13.FlatCuts': WHATEVER THE INPUT: true; the input reads as it did. -/
def flatCutsSpec : ChangeSpec := { name := "flatCuts", fn := fun _ => fun
  | [d1, d2, d3, d4, d5] => { results := [.lit (.bool true)], args := [d1, d2, d3, d4, d5] }
  | _ => none }
def flatCutsRow : OpenClaim := { program := "ythidkdlmpkeogaa", sum := "3d6af6856bb223219f109177c68e7e9739569f8bcd663b520f6bbebdb5c7be05", func := "weirkeeper/weirkeeperlaw13.FlatCuts", spec := "flatCuts", unfollowed := true, recurses := true, apart := false }
def FlatCutsSaid : Prop := flatCutsRow.holds Try.pinned (OpenSpec.ofChange flatCutsSpec)

/-- ITS FALSE NEIGHBOUR: 'it returns false'. Refute it at one input. -/
def flatCutsWrong : ChangeSpec := { name := "flatCuts", fn := fun _ => fun
  | [d1, d2, d3, d4, d5] => { results := [.lit (.bool false)], args := [d1, d2, d3, d4, d5] }
  | _ => none }
def FlatCutsWrongFalsely : Prop := flatCutsRow.holds Try.pinned (OpenSpec.ofChange flatCutsWrong)

/-- 'weirkeeperlaw04.DiskNew': WHATEVER THE INPUT: true; the input reads as it did. -/
def diskNewSpec : ChangeSpec := { name := "diskNew", fn := fun _ => fun
  | [d] => { results := [.lit (.bool true)], args := [d] }
  | _ => none }
def diskNewRow : OpenClaim := { program := "ythidkdlmpkeogaa", sum := "3d6af6856bb223219f109177c68e7e9739569f8bcd663b520f6bbebdb5c7be05", func := "weirkeeper/weirkeeperlaw04.DiskNew", spec := "diskNew", inPlace := ["internal/abi.NoEscape", "internal/bytealg.MakeNoZero"], unfollowed := true, recurses := true, apart := false }
def DiskNewSaid : Prop := diskNewRow.holds Try.pinned (OpenSpec.ofChange diskNewSpec)

/-- ITS FALSE NEIGHBOUR: 'it returns false'. Refute it at one input. -/
def diskNewWrong : ChangeSpec := { name := "diskNew", fn := fun _ => fun
  | [d] => { results := [.lit (.bool false)], args := [d] }
  | _ => none }
def DiskNewWrongFalsely : Prop := diskNewRow.holds Try.pinned (OpenSpec.ofChange diskNewWrong)

/-- 'weirkeeperlaw04.DiskReads': WHATEVER THE INPUT: true; the input reads as it did. -/
def diskReadsSpec : ChangeSpec := { name := "diskReads", fn := fun _ => fun
  | [d1, d2, d3] => { results := [.lit (.bool true)], args := [d1, d2, d3] }
  | _ => none }
def diskReadsRow : OpenClaim := { program := "ythidkdlmpkeogaa", sum := "3d6af6856bb223219f109177c68e7e9739569f8bcd663b520f6bbebdb5c7be05", func := "weirkeeper/weirkeeperlaw04.DiskReads", spec := "diskReads", inPlace := ["internal/abi.NoEscape", "internal/bytealg.MakeNoZero"], unfollowed := true, recurses := true, apart := false }
def DiskReadsSaid : Prop := diskReadsRow.holds Try.pinned (OpenSpec.ofChange diskReadsSpec)

/-- ITS FALSE NEIGHBOUR: 'it returns false'. Refute it at one input. -/
def diskReadsWrong : ChangeSpec := { name := "diskReads", fn := fun _ => fun
  | [d1, d2, d3] => { results := [.lit (.bool false)], args := [d1, d2, d3] }
  | _ => none }
def DiskReadsWrongFalsely : Prop := diskReadsRow.holds Try.pinned (OpenSpec.ofChange diskReadsWrong)

/-- 'weirkeeperlaw04.DiskCrashes': WHATEVER THE INPUT: true; the input reads as it did. -/
def diskCrashesSpec : ChangeSpec := { name := "diskCrashes", fn := fun _ => fun
  | [d1, d2] => { results := [.lit (.bool true)], args := [d1, d2] }
  | _ => none }
def diskCrashesRow : OpenClaim := { program := "ythidkdlmpkeogaa", sum := "3d6af6856bb223219f109177c68e7e9739569f8bcd663b520f6bbebdb5c7be05", func := "weirkeeper/weirkeeperlaw04.DiskCrashes", spec := "diskCrashes", inPlace := ["internal/abi.NoEscape", "internal/bytealg.MakeNoZero"], unfollowed := true, recurses := true, apart := false }
def DiskCrashesSaid : Prop := diskCrashesRow.holds Try.pinned (OpenSpec.ofChange diskCrashesSpec)

/-- ITS FALSE NEIGHBOUR: 'it returns false'. Refute it at one input. -/
def diskCrashesWrong : ChangeSpec := { name := "diskCrashes", fn := fun _ => fun
  | [d1, d2] => { results := [.lit (.bool false)], args := [d1, d2] }
  | _ => none }
def DiskCrashesWrongFalsely : Prop := diskCrashesRow.holds Try.pinned (OpenSpec.ofChange diskCrashesWrong)

/-- 'weirkeeperlaw04.DiskOnce': WHATEVER THE INPUT: true; the input reads as it did. -/
def diskOnceSpec : ChangeSpec := { name := "diskOnce", fn := fun _ => fun
  | [d1, d2, d3, d4, d5, d6] => { results := [.lit (.bool true)], args := [d1, d2, d3, d4, d5, d6] }
  | _ => none }
def diskOnceRow : OpenClaim := { program := "ythidkdlmpkeogaa", sum := "3d6af6856bb223219f109177c68e7e9739569f8bcd663b520f6bbebdb5c7be05", func := "weirkeeper/weirkeeperlaw04.DiskOnce", spec := "diskOnce", inPlace := ["internal/abi.NoEscape", "internal/bytealg.MakeNoZero"], unfollowed := true, recurses := true, apart := false }
def DiskOnceSaid : Prop := diskOnceRow.holds Try.pinned (OpenSpec.ofChange diskOnceSpec)

/-- ITS FALSE NEIGHBOUR: 'it returns false'. Refute it at one input. -/
def diskOnceWrong : ChangeSpec := { name := "diskOnce", fn := fun _ => fun
  | [d1, d2, d3, d4, d5, d6] => { results := [.lit (.bool false)], args := [d1, d2, d3, d4, d5, d6] }
  | _ => none }
def DiskOnceWrongFalsely : Prop := diskOnceRow.holds Try.pinned (OpenSpec.ofChange diskOnceWrong)

/- THE SECOND FORM. 'bulk': how many values and letters a reading holds, each counted each time it is reached (what is shared counts as often as it is met; a slice's spare places count too). A statement '..UptoSaid' is the law's where the arguments, and the package variables that the reading takes, are together of bulk at most 1048576: NARROWER than '..Said'. Prove '..Said' where nothing that the law and all that it calls make is longer than what came in: it says more and counts as full. Else prove '..UptoSaid'. A law counts once. -/
mutual
def uptoBulk {H : Type} : DataW H → Nat
  | .lit (.string bytes) => bytes.length + 1
  | .lit _ => 1
  | .nil => 1
  | .ptr d => uptoBulk d + 1
  | .slice elems spare => uptoBulkAll elems + uptoBulkAll spare + 1
  | .agg parts => uptoBulkAll parts + 1
  | .iface _ d => uptoBulk d + 1
  | .map entries => uptoBulkEntries entries + 1
  | .held _ => 1
def uptoBulkAll {H : Type} : List (DataW H) → Nat
  | [] => 0
  | d :: r => uptoBulk d + uptoBulkAll r
def uptoBulkEntries {H : Type} : List (Lit × DataW H) → Nat
  | [] => 0
  | x :: r => uptoBulkEntry x + uptoBulkEntries r
def uptoBulkEntry {H : Type} : Lit × DataW H → Nat
  | (.string bytes, d) => bytes.length + uptoBulk d + 1
  | (_, d) => uptoBulk d + 1
 end
def uptoSmall : (H : Type) → List (DataW H) → Bool := fun _ ds => decide (uptoBulkAll ds ≤ 1048576)
def OpenSpec.upto (s : _root_.Go.ChangeSpec) : _root_.Go.OpenSpec := { _root_.Go.OpenSpec.ofChange s with cond := some uptoSmall }

/-- 'weirkeeperlaw13.FlatWrites', WHERE WHAT IT READS IS OF BULK AT MOST 1048576: true; the input reads as it did. -/
def flatWritesUptoRow : OpenClaim := { program := "ythidkdlmpkeogaa", sum := "3d6af6856bb223219f109177c68e7e9739569f8bcd663b520f6bbebdb5c7be05", func := "weirkeeper/weirkeeperlaw13.FlatWrites", spec := "flatWrites", unfollowed := true, recurses := true, apart := false, narrowed := true }
def FlatWritesUptoSaid : Prop := flatWritesUptoRow.holds Try.pinned (OpenSpec.upto flatWritesSpec)

/-- 'weirkeeperlaw13.FlatJoins', WHERE WHAT IT READS IS OF BULK AT MOST 1048576: true; the input reads as it did. -/
def flatJoinsUptoRow : OpenClaim := { program := "ythidkdlmpkeogaa", sum := "3d6af6856bb223219f109177c68e7e9739569f8bcd663b520f6bbebdb5c7be05", func := "weirkeeper/weirkeeperlaw13.FlatJoins", spec := "flatJoins", unfollowed := true, recurses := true, apart := false, narrowed := true }
def FlatJoinsUptoSaid : Prop := flatJoinsUptoRow.holds Try.pinned (OpenSpec.upto flatJoinsSpec)

/-- 'weirkeeperlaw13.FlatTakes', WHERE WHAT IT READS IS OF BULK AT MOST 1048576: true; the input reads as it did. -/
def flatTakesUptoRow : OpenClaim := { program := "ythidkdlmpkeogaa", sum := "3d6af6856bb223219f109177c68e7e9739569f8bcd663b520f6bbebdb5c7be05", func := "weirkeeper/weirkeeperlaw13.FlatTakes", spec := "flatTakes", unfollowed := true, recurses := true, apart := false, narrowed := true }
def FlatTakesUptoSaid : Prop := flatTakesUptoRow.holds Try.pinned (OpenSpec.upto flatTakesSpec)

/-- 'weirkeeperlaw13.FlatBack', WHERE WHAT IT READS IS OF BULK AT MOST 1048576: true; the input reads as it did. -/
def flatBackUptoRow : OpenClaim := { program := "ythidkdlmpkeogaa", sum := "3d6af6856bb223219f109177c68e7e9739569f8bcd663b520f6bbebdb5c7be05", func := "weirkeeper/weirkeeperlaw13.FlatBack", spec := "flatBack", unfollowed := true, recurses := true, apart := false, narrowed := true }
def FlatBackUptoSaid : Prop := flatBackUptoRow.holds Try.pinned (OpenSpec.upto flatBackSpec)

/-- 'weirkeeperlaw13.FlatOnce', WHERE WHAT IT READS IS OF BULK AT MOST 1048576: true; the input reads as it did. -/
def flatOnceUptoRow : OpenClaim := { program := "ythidkdlmpkeogaa", sum := "3d6af6856bb223219f109177c68e7e9739569f8bcd663b520f6bbebdb5c7be05", func := "weirkeeper/weirkeeperlaw13.FlatOnce", spec := "flatOnce", unfollowed := true, recurses := true, apart := false, narrowed := true }
def FlatOnceUptoSaid : Prop := flatOnceUptoRow.holds Try.pinned (OpenSpec.upto flatOnceSpec)

/-- 'weirkeeperlaw13.FlatCuts', WHERE WHAT IT READS IS OF BULK AT MOST 1048576: true; the input reads as it did. -/
def flatCutsUptoRow : OpenClaim := { program := "ythidkdlmpkeogaa", sum := "3d6af6856bb223219f109177c68e7e9739569f8bcd663b520f6bbebdb5c7be05", func := "weirkeeper/weirkeeperlaw13.FlatCuts", spec := "flatCuts", unfollowed := true, recurses := true, apart := false, narrowed := true }
def FlatCutsUptoSaid : Prop := flatCutsUptoRow.holds Try.pinned (OpenSpec.upto flatCutsSpec)

/-- 'weirkeeperlaw04.DiskNew', WHERE WHAT IT READS IS OF BULK AT MOST 1048576: true; the input reads as it did. -/
def diskNewUptoRow : OpenClaim := { program := "ythidkdlmpkeogaa", sum := "3d6af6856bb223219f109177c68e7e9739569f8bcd663b520f6bbebdb5c7be05", func := "weirkeeper/weirkeeperlaw04.DiskNew", spec := "diskNew", inPlace := ["internal/abi.NoEscape", "internal/bytealg.MakeNoZero"], unfollowed := true, recurses := true, apart := false, narrowed := true }
def DiskNewUptoSaid : Prop := diskNewUptoRow.holds Try.pinned (OpenSpec.upto diskNewSpec)

/-- 'weirkeeperlaw04.DiskReads', WHERE WHAT IT READS IS OF BULK AT MOST 1048576: true; the input reads as it did. -/
def diskReadsUptoRow : OpenClaim := { program := "ythidkdlmpkeogaa", sum := "3d6af6856bb223219f109177c68e7e9739569f8bcd663b520f6bbebdb5c7be05", func := "weirkeeper/weirkeeperlaw04.DiskReads", spec := "diskReads", inPlace := ["internal/abi.NoEscape", "internal/bytealg.MakeNoZero"], unfollowed := true, recurses := true, apart := false, narrowed := true }
def DiskReadsUptoSaid : Prop := diskReadsUptoRow.holds Try.pinned (OpenSpec.upto diskReadsSpec)

/-- 'weirkeeperlaw04.DiskCrashes', WHERE WHAT IT READS IS OF BULK AT MOST 1048576: true; the input reads as it did. -/
def diskCrashesUptoRow : OpenClaim := { program := "ythidkdlmpkeogaa", sum := "3d6af6856bb223219f109177c68e7e9739569f8bcd663b520f6bbebdb5c7be05", func := "weirkeeper/weirkeeperlaw04.DiskCrashes", spec := "diskCrashes", inPlace := ["internal/abi.NoEscape", "internal/bytealg.MakeNoZero"], unfollowed := true, recurses := true, apart := false, narrowed := true }
def DiskCrashesUptoSaid : Prop := diskCrashesUptoRow.holds Try.pinned (OpenSpec.upto diskCrashesSpec)

/-- 'weirkeeperlaw04.DiskOnce', WHERE WHAT IT READS IS OF BULK AT MOST 1048576: true; the input reads as it did. -/
def diskOnceUptoRow : OpenClaim := { program := "ythidkdlmpkeogaa", sum := "3d6af6856bb223219f109177c68e7e9739569f8bcd663b520f6bbebdb5c7be05", func := "weirkeeper/weirkeeperlaw04.DiskOnce", spec := "diskOnce", inPlace := ["internal/abi.NoEscape", "internal/bytealg.MakeNoZero"], unfollowed := true, recurses := true, apart := false, narrowed := true }
def DiskOnceUptoSaid : Prop := diskOnceUptoRow.holds Try.pinned (OpenSpec.upto diskOnceSpec)

end Rows
end Go.Proofs.Ythidkdlmpkeogaa
