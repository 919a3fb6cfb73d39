/-
  No cell of these rows narrows 'for every input' (looked for: loops, veiled, ifaces, maps, wideKeys, modest, calm, conditions, laid).
  DERIVED. THE GIVEN ROWS OF THIS SEAT. 11 by the template 'for every input the law returns true; each argument reads behind the call as it read before'; 0 by the template 'total and deterministic' (their statements: YthcohkgpbjcliaaTotals.lean).
  GIVEN WITH THE SEED: the statements are not yours to turn. If you find one false, say at which input.
  Laid BY PROGRAM, IN A SANDBOX (cutbox-rows.mjs): the forced cells as the released guide's own fill.sh prints them over the translation d1f40e979f03d09a… (all of the seat's roots in one cut). By AI agents, Wed Nov 11 2026. No macro, syntax, notation, axiom, sorry.
-/
import Derived.Test.YthcohkgpbjcliaaChecked
import GoSem.Claim
import GoSem.ClaimJoined
import GoSem.ClaimMapViews
import Derived.JoinedTies
import Derived.KernelRfl
namespace Go.Proofs.Ythcohkgpbjcliaa
/- THE CELL 'sum', in the pinned program and in every row, IS THE sha256 OF THE DUMP (.gsa) THAT YthcohkgpbjcliaaProg.lean LOADS. Nothing in Lean hashes anything: it is a label: what it is worth is what the hold of that sum in a sandbox is worth. -/
noncomputable def Try.pinned : Pinned := { name := "ythcohkgpbjcliaa", sum := "d1f40e979f03d09a02fd29da8954d746984f284cd2635b4357986f6c4ca04479", checked := Try.checked }
namespace Rows
def none {H : Type} : Left H := { results := [], args := [] }

/-- 'weirkeeperlaw07.RootTells': WHATEVER THE INPUT: true; the input reads as it did. -/
def rootTellsSpec : ChangeSpec := { name := "rootTells", fn := fun _ => fun
  | [d1, d2, d3] => { results := [.lit (.bool true)], args := [d1, d2, d3] }
  | _ => none }
def rootTellsRow : OpenClaim := { program := "ythcohkgpbjcliaa", sum := "d1f40e979f03d09a02fd29da8954d746984f284cd2635b4357986f6c4ca04479", func := "weirkeeper/weirkeeperlaw07.RootTells", spec := "rootTells", inPlace := ["internal/abi.NoEscape", "internal/bytealg.MakeNoZero"], unfollowed := true, recurses := true, apart := false }
def RootTellsSaid : Prop := rootTellsRow.holds Try.pinned (OpenSpec.ofChange rootTellsSpec)

/-- ITS FALSE NEIGHBOUR: 'it returns false'. Refute it at one input. -/
def rootTellsWrong : ChangeSpec := { name := "rootTells", fn := fun _ => fun
  | [d1, d2, d3] => { results := [.lit (.bool false)], args := [d1, d2, d3] }
  | _ => none }
def RootTellsWrongFalsely : Prop := rootTellsRow.holds Try.pinned (OpenSpec.ofChange rootTellsWrong)

/-- 'weirkeeperlaw07.RootBack': WHATEVER THE INPUT: true; the input reads as it did. -/
def rootBackSpec : ChangeSpec := { name := "rootBack", fn := fun _ => fun
  | [d1, d2] => { results := [.lit (.bool true)], args := [d1, d2] }
  | _ => none }
def rootBackRow : OpenClaim := { program := "ythcohkgpbjcliaa", sum := "d1f40e979f03d09a02fd29da8954d746984f284cd2635b4357986f6c4ca04479", func := "weirkeeper/weirkeeperlaw07.RootBack", spec := "rootBack", inPlace := ["internal/abi.NoEscape", "internal/bytealg.MakeNoZero"], unfollowed := true, recurses := true, apart := false }
def RootBackSaid : Prop := rootBackRow.holds Try.pinned (OpenSpec.ofChange rootBackSpec)

/-- ITS FALSE NEIGHBOUR: 'it returns false'. Refute it at one input. -/
def rootBackWrong : ChangeSpec := { name := "rootBack", fn := fun _ => fun
  | [d1, d2] => { results := [.lit (.bool false)], args := [d1, d2] }
  | _ => none }
def RootBackWrongFalsely : Prop := rootBackRow.holds Try.pinned (OpenSpec.ofChange rootBackWrong)

/-- 'weirkeeperlaw07.RootGoes': WHATEVER THE INPUT: true; the input reads as it did. -/
def rootGoesSpec : ChangeSpec := { name := "rootGoes", fn := fun _ => fun
  | [d1, d2, d3] => { results := [.lit (.bool true)], args := [d1, d2, d3] }
  | _ => none }
def rootGoesRow : OpenClaim := { program := "ythcohkgpbjcliaa", sum := "d1f40e979f03d09a02fd29da8954d746984f284cd2635b4357986f6c4ca04479", func := "weirkeeper/weirkeeperlaw07.RootGoes", spec := "rootGoes", inPlace := ["internal/abi.NoEscape", "internal/bytealg.MakeNoZero"], unfollowed := true, recurses := true, apart := false }
def RootGoesSaid : Prop := rootGoesRow.holds Try.pinned (OpenSpec.ofChange rootGoesSpec)

/-- ITS FALSE NEIGHBOUR: 'it returns false'. Refute it at one input. -/
def rootGoesWrong : ChangeSpec := { name := "rootGoes", fn := fun _ => fun
  | [d1, d2, d3] => { results := [.lit (.bool false)], args := [d1, d2, d3] }
  | _ => none }
def RootGoesWrongFalsely : Prop := rootGoesRow.holds Try.pinned (OpenSpec.ofChange rootGoesWrong)

/-- 'weirkeeperlaw07.RootNone': WHATEVER THE INPUT: true; the input reads as it did. -/
def rootNoneSpec : ChangeSpec := { name := "rootNone", fn := fun _ => fun
  | [d1, d2] => { results := [.lit (.bool true)], args := [d1, d2] }
  | _ => none }
def rootNoneRow : OpenClaim := { program := "ythcohkgpbjcliaa", sum := "d1f40e979f03d09a02fd29da8954d746984f284cd2635b4357986f6c4ca04479", func := "weirkeeper/weirkeeperlaw07.RootNone", spec := "rootNone", inPlace := ["internal/abi.NoEscape", "internal/bytealg.MakeNoZero"], unfollowed := true, recurses := true, apart := false }
def RootNoneSaid : Prop := rootNoneRow.holds Try.pinned (OpenSpec.ofChange rootNoneSpec)

/-- ITS FALSE NEIGHBOUR: 'it returns false'. Refute it at one input. -/
def rootNoneWrong : ChangeSpec := { name := "rootNone", fn := fun _ => fun
  | [d1, d2] => { results := [.lit (.bool false)], args := [d1, d2] }
  | _ => none }
def RootNoneWrongFalsely : Prop := rootNoneRow.holds Try.pinned (OpenSpec.ofChange rootNoneWrong)

/-- 'weirkeeperlaw07.RootSafe': WHATEVER THE INPUT: true; the input reads as it did. -/
def rootSafeSpec : ChangeSpec := { name := "rootSafe", fn := fun _ => fun
  | [d1, d2, d3, d4, d5] => { results := [.lit (.bool true)], args := [d1, d2, d3, d4, d5] }
  | _ => none }
def rootSafeRow : OpenClaim := { program := "ythcohkgpbjcliaa", sum := "d1f40e979f03d09a02fd29da8954d746984f284cd2635b4357986f6c4ca04479", func := "weirkeeper/weirkeeperlaw07.RootSafe", spec := "rootSafe", inPlace := ["internal/abi.NoEscape", "internal/bytealg.MakeNoZero"], unfollowed := true, recurses := true, apart := false }
def RootSafeSaid : Prop := rootSafeRow.holds Try.pinned (OpenSpec.ofChange rootSafeSpec)

/-- ITS FALSE NEIGHBOUR: 'it returns false'. Refute it at one input. -/
def rootSafeWrong : ChangeSpec := { name := "rootSafe", fn := fun _ => fun
  | [d1, d2, d3, d4, d5] => { results := [.lit (.bool false)], args := [d1, d2, d3, d4, d5] }
  | _ => none }
def RootSafeWrongFalsely : Prop := rootSafeRow.holds Try.pinned (OpenSpec.ofChange rootSafeWrong)

/-- 'weirkeeperlaw05.SpaceTells': WHATEVER THE INPUT: true; the input reads as it did. -/
def spaceTellsSpec : ChangeSpec := { name := "spaceTells", fn := fun _ => fun
  | [d1, d2, d3, d4] => { results := [.lit (.bool true)], args := [d1, d2, d3, d4] }
  | _ => none }
def spaceTellsRow : OpenClaim := { program := "ythcohkgpbjcliaa", sum := "d1f40e979f03d09a02fd29da8954d746984f284cd2635b4357986f6c4ca04479", func := "weirkeeper/weirkeeperlaw05.SpaceTells", spec := "spaceTells", unfollowed := true, recurses := true, apart := false }
def SpaceTellsSaid : Prop := spaceTellsRow.holds Try.pinned (OpenSpec.ofChange spaceTellsSpec)

/-- ITS FALSE NEIGHBOUR: 'it returns false'. Refute it at one input. -/
def spaceTellsWrong : ChangeSpec := { name := "spaceTells", fn := fun _ => fun
  | [d1, d2, d3, d4] => { results := [.lit (.bool false)], args := [d1, d2, d3, d4] }
  | _ => none }
def SpaceTellsWrongFalsely : Prop := spaceTellsRow.holds Try.pinned (OpenSpec.ofChange spaceTellsWrong)

/-- 'weirkeeperlaw05.SpaceFits': WHATEVER THE INPUT: true; the input reads as it did. -/
def spaceFitsSpec : ChangeSpec := { name := "spaceFits", fn := fun _ => fun
  | [d1, d2, d3, d4] => { results := [.lit (.bool true)], args := [d1, d2, d3, d4] }
  | _ => none }
def spaceFitsRow : OpenClaim := { program := "ythcohkgpbjcliaa", sum := "d1f40e979f03d09a02fd29da8954d746984f284cd2635b4357986f6c4ca04479", func := "weirkeeper/weirkeeperlaw05.SpaceFits", spec := "spaceFits", unfollowed := true, recurses := true, apart := false }
def SpaceFitsSaid : Prop := spaceFitsRow.holds Try.pinned (OpenSpec.ofChange spaceFitsSpec)

/-- ITS FALSE NEIGHBOUR: 'it returns false'. Refute it at one input. -/
def spaceFitsWrong : ChangeSpec := { name := "spaceFits", fn := fun _ => fun
  | [d1, d2, d3, d4] => { results := [.lit (.bool false)], args := [d1, d2, d3, d4] }
  | _ => none }
def SpaceFitsWrongFalsely : Prop := spaceFitsRow.holds Try.pinned (OpenSpec.ofChange spaceFitsWrong)

/-- 'weirkeeperlaw05.SpaceWhole': WHATEVER THE INPUT: true; the input reads as it did. -/
def spaceWholeSpec : ChangeSpec := { name := "spaceWhole", fn := fun _ => fun
  | [d1, d2, d3] => { results := [.lit (.bool true)], args := [d1, d2, d3] }
  | _ => none }
def spaceWholeRow : OpenClaim := { program := "ythcohkgpbjcliaa", sum := "d1f40e979f03d09a02fd29da8954d746984f284cd2635b4357986f6c4ca04479", func := "weirkeeper/weirkeeperlaw05.SpaceWhole", spec := "spaceWhole", unfollowed := true, recurses := true, apart := false }
def SpaceWholeSaid : Prop := spaceWholeRow.holds Try.pinned (OpenSpec.ofChange spaceWholeSpec)

/-- ITS FALSE NEIGHBOUR: 'it returns false'. Refute it at one input. -/
def spaceWholeWrong : ChangeSpec := { name := "spaceWhole", fn := fun _ => fun
  | [d1, d2, d3] => { results := [.lit (.bool false)], args := [d1, d2, d3] }
  | _ => none }
def SpaceWholeWrongFalsely : Prop := spaceWholeRow.holds Try.pinned (OpenSpec.ofChange spaceWholeWrong)

/-- 'weirkeeperlaw05.SpaceOrder': WHATEVER THE INPUT: true; the input reads as it did. -/
def spaceOrderSpec : ChangeSpec := { name := "spaceOrder", fn := fun _ => fun
  | [d1, d2, d3, d4, d5] => { results := [.lit (.bool true)], args := [d1, d2, d3, d4, d5] }
  | _ => none }
def spaceOrderRow : OpenClaim := { program := "ythcohkgpbjcliaa", sum := "d1f40e979f03d09a02fd29da8954d746984f284cd2635b4357986f6c4ca04479", func := "weirkeeper/weirkeeperlaw05.SpaceOrder", spec := "spaceOrder", unfollowed := true, recurses := true, apart := false }
def SpaceOrderSaid : Prop := spaceOrderRow.holds Try.pinned (OpenSpec.ofChange spaceOrderSpec)

/-- ITS FALSE NEIGHBOUR: 'it returns false'. Refute it at one input. -/
def spaceOrderWrong : ChangeSpec := { name := "spaceOrder", fn := fun _ => fun
  | [d1, d2, d3, d4, d5] => { results := [.lit (.bool false)], args := [d1, d2, d3, d4, d5] }
  | _ => none }
def SpaceOrderWrongFalsely : Prop := spaceOrderRow.holds Try.pinned (OpenSpec.ofChange spaceOrderWrong)

/-- 'weirkeeperlaw05.SpaceFills': WHATEVER THE INPUT: true; the input reads as it did. -/
def spaceFillsSpec : ChangeSpec := { name := "spaceFills", fn := fun _ => fun
  | [d1, d2, d3] => { results := [.lit (.bool true)], args := [d1, d2, d3] }
  | _ => none }
def spaceFillsRow : OpenClaim := { program := "ythcohkgpbjcliaa", sum := "d1f40e979f03d09a02fd29da8954d746984f284cd2635b4357986f6c4ca04479", func := "weirkeeper/weirkeeperlaw05.SpaceFills", spec := "spaceFills", unfollowed := true, recurses := true, apart := false }
def SpaceFillsSaid : Prop := spaceFillsRow.holds Try.pinned (OpenSpec.ofChange spaceFillsSpec)

/-- ITS FALSE NEIGHBOUR: 'it returns false'. Refute it at one input. -/
def spaceFillsWrong : ChangeSpec := { name := "spaceFills", fn := fun _ => fun
  | [d1, d2, d3] => { results := [.lit (.bool false)], args := [d1, d2, d3] }
  | _ => none }
def SpaceFillsWrongFalsely : Prop := spaceFillsRow.holds Try.pinned (OpenSpec.ofChange spaceFillsWrong)

/-- 'weirkeeperlaw05.SpaceGreatest': WHATEVER THE INPUT: true; the input reads as it did. -/
def spaceGreatestSpec : ChangeSpec := { name := "spaceGreatest", fn := fun _ => fun
  | [d1, d2, d3, d4] => { results := [.lit (.bool true)], args := [d1, d2, d3, d4] }
  | _ => none }
def spaceGreatestRow : OpenClaim := { program := "ythcohkgpbjcliaa", sum := "d1f40e979f03d09a02fd29da8954d746984f284cd2635b4357986f6c4ca04479", func := "weirkeeper/weirkeeperlaw05.SpaceGreatest", spec := "spaceGreatest", unfollowed := true, recurses := true, apart := false }
def SpaceGreatestSaid : Prop := spaceGreatestRow.holds Try.pinned (OpenSpec.ofChange spaceGreatestSpec)

/-- ITS FALSE NEIGHBOUR: 'it returns false'. Refute it at one input. -/
def spaceGreatestWrong : ChangeSpec := { name := "spaceGreatest", fn := fun _ => fun
  | [d1, d2, d3, d4] => { results := [.lit (.bool false)], args := [d1, d2, d3, d4] }
  | _ => none }
def SpaceGreatestWrongFalsely : Prop := spaceGreatestRow.holds Try.pinned (OpenSpec.ofChange spaceGreatestWrong)

/- THE SECOND FORM. 'bulk': how many values and letters a reading holds, each counted each time it is reached (what is shared counts as often as it is met; a slice's spare places count too). A statement '..UptoSaid' is the law's where the arguments, and the package variables that the reading takes, are together of bulk at most 1048576: NARROWER than '..Said'. Prove '..Said' where nothing that the law and all that it calls make is longer than what came in: it says more and counts as full. Else prove '..UptoSaid'. A law counts once. -/
mutual
def uptoBulk {H : Type} : DataW H → Nat
  | .lit (.string bytes) => bytes.length + 1
  | .lit _ => 1
  | .nil => 1
  | .ptr d => uptoBulk d + 1
  | .slice elems spare => uptoBulkAll elems + uptoBulkAll spare + 1
  | .agg parts => uptoBulkAll parts + 1
  | .iface _ d => uptoBulk d + 1
  | .map entries => uptoBulkEntries entries + 1
  | .held _ => 1
def uptoBulkAll {H : Type} : List (DataW H) → Nat
  | [] => 0
  | d :: r => uptoBulk d + uptoBulkAll r
def uptoBulkEntries {H : Type} : List (Lit × DataW H) → Nat
  | [] => 0
  | x :: r => uptoBulkEntry x + uptoBulkEntries r
def uptoBulkEntry {H : Type} : Lit × DataW H → Nat
  | (.string bytes, d) => bytes.length + uptoBulk d + 1
  | (_, d) => uptoBulk d + 1
 end
def uptoSmall : (H : Type) → List (DataW H) → Bool := fun _ ds => decide (uptoBulkAll ds ≤ 1048576)
def OpenSpec.upto (s : _root_.Go.ChangeSpec) : _root_.Go.OpenSpec := { _root_.Go.OpenSpec.ofChange s with cond := some uptoSmall }

/-- 'weirkeeperlaw07.RootTells', WHERE WHAT IT READS IS OF BULK AT MOST 1048576: true; the input reads as it did. -/
def rootTellsUptoRow : OpenClaim := { program := "ythcohkgpbjcliaa", sum := "d1f40e979f03d09a02fd29da8954d746984f284cd2635b4357986f6c4ca04479", func := "weirkeeper/weirkeeperlaw07.RootTells", spec := "rootTells", inPlace := ["internal/abi.NoEscape", "internal/bytealg.MakeNoZero"], unfollowed := true, recurses := true, apart := false, narrowed := true }
def RootTellsUptoSaid : Prop := rootTellsUptoRow.holds Try.pinned (OpenSpec.upto rootTellsSpec)

/-- 'weirkeeperlaw07.RootBack', WHERE WHAT IT READS IS OF BULK AT MOST 1048576: true; the input reads as it did. -/
def rootBackUptoRow : OpenClaim := { program := "ythcohkgpbjcliaa", sum := "d1f40e979f03d09a02fd29da8954d746984f284cd2635b4357986f6c4ca04479", func := "weirkeeper/weirkeeperlaw07.RootBack", spec := "rootBack", inPlace := ["internal/abi.NoEscape", "internal/bytealg.MakeNoZero"], unfollowed := true, recurses := true, apart := false, narrowed := true }
def RootBackUptoSaid : Prop := rootBackUptoRow.holds Try.pinned (OpenSpec.upto rootBackSpec)

/-- 'weirkeeperlaw07.RootGoes', WHERE WHAT IT READS IS OF BULK AT MOST 1048576: true; the input reads as it did. -/
def rootGoesUptoRow : OpenClaim := { program := "ythcohkgpbjcliaa", sum := "d1f40e979f03d09a02fd29da8954d746984f284cd2635b4357986f6c4ca04479", func := "weirkeeper/weirkeeperlaw07.RootGoes", spec := "rootGoes", inPlace := ["internal/abi.NoEscape", "internal/bytealg.MakeNoZero"], unfollowed := true, recurses := true, apart := false, narrowed := true }
def RootGoesUptoSaid : Prop := rootGoesUptoRow.holds Try.pinned (OpenSpec.upto rootGoesSpec)

/-- 'weirkeeperlaw07.RootNone', WHERE WHAT IT READS IS OF BULK AT MOST 1048576: true; the input reads as it did. -/
def rootNoneUptoRow : OpenClaim := { program := "ythcohkgpbjcliaa", sum := "d1f40e979f03d09a02fd29da8954d746984f284cd2635b4357986f6c4ca04479", func := "weirkeeper/weirkeeperlaw07.RootNone", spec := "rootNone", inPlace := ["internal/abi.NoEscape", "internal/bytealg.MakeNoZero"], unfollowed := true, recurses := true, apart := false, narrowed := true }
def RootNoneUptoSaid : Prop := rootNoneUptoRow.holds Try.pinned (OpenSpec.upto rootNoneSpec)

/-- 'weirkeeperlaw07.RootSafe', WHERE WHAT IT READS IS OF BULK AT MOST 1048576: true; the input reads as it did. -/
def rootSafeUptoRow : OpenClaim := { program := "ythcohkgpbjcliaa", sum := "d1f40e979f03d09a02fd29da8954d746984f284cd2635b4357986f6c4ca04479", func := "weirkeeper/weirkeeperlaw07.RootSafe", spec := "rootSafe", inPlace := ["internal/abi.NoEscape", "internal/bytealg.MakeNoZero"], unfollowed := true, recurses := true, apart := false, narrowed := true }
def RootSafeUptoSaid : Prop := rootSafeUptoRow.holds Try.pinned (OpenSpec.upto rootSafeSpec)

/-- 'weirkeeperlaw05.SpaceTells', WHERE WHAT IT READS IS OF BULK AT MOST 1048576: true; the input reads as it did. -/
def spaceTellsUptoRow : OpenClaim := { program := "ythcohkgpbjcliaa", sum := "d1f40e979f03d09a02fd29da8954d746984f284cd2635b4357986f6c4ca04479", func := "weirkeeper/weirkeeperlaw05.SpaceTells", spec := "spaceTells", unfollowed := true, recurses := true, apart := false, narrowed := true }
def SpaceTellsUptoSaid : Prop := spaceTellsUptoRow.holds Try.pinned (OpenSpec.upto spaceTellsSpec)

/-- 'weirkeeperlaw05.SpaceFits', WHERE WHAT IT READS IS OF BULK AT MOST 1048576: true; the input reads as it did. -/
def spaceFitsUptoRow : OpenClaim := { program := "ythcohkgpbjcliaa", sum := "d1f40e979f03d09a02fd29da8954d746984f284cd2635b4357986f6c4ca04479", func := "weirkeeper/weirkeeperlaw05.SpaceFits", spec := "spaceFits", unfollowed := true, recurses := true, apart := false, narrowed := true }
def SpaceFitsUptoSaid : Prop := spaceFitsUptoRow.holds Try.pinned (OpenSpec.upto spaceFitsSpec)

/-- 'weirkeeperlaw05.SpaceWhole', WHERE WHAT IT READS IS OF BULK AT MOST 1048576: true; the input reads as it did. -/
def spaceWholeUptoRow : OpenClaim := { program := "ythcohkgpbjcliaa", sum := "d1f40e979f03d09a02fd29da8954d746984f284cd2635b4357986f6c4ca04479", func := "weirkeeper/weirkeeperlaw05.SpaceWhole", spec := "spaceWhole", unfollowed := true, recurses := true, apart := false, narrowed := true }
def SpaceWholeUptoSaid : Prop := spaceWholeUptoRow.holds Try.pinned (OpenSpec.upto spaceWholeSpec)

/-- 'weirkeeperlaw05.SpaceOrder', WHERE WHAT IT READS IS OF BULK AT MOST 1048576: true; the input reads as it did. -/
def spaceOrderUptoRow : OpenClaim := { program := "ythcohkgpbjcliaa", sum := "d1f40e979f03d09a02fd29da8954d746984f284cd2635b4357986f6c4ca04479", func := "weirkeeper/weirkeeperlaw05.SpaceOrder", spec := "spaceOrder", unfollowed := true, recurses := true, apart := false, narrowed := true }
def SpaceOrderUptoSaid : Prop := spaceOrderUptoRow.holds Try.pinned (OpenSpec.upto spaceOrderSpec)

/-- 'weirkeeperlaw05.SpaceFills', WHERE WHAT IT READS IS OF BULK AT MOST 1048576: true; the input reads as it did. -/
def spaceFillsUptoRow : OpenClaim := { program := "ythcohkgpbjcliaa", sum := "d1f40e979f03d09a02fd29da8954d746984f284cd2635b4357986f6c4ca04479", func := "weirkeeper/weirkeeperlaw05.SpaceFills", spec := "spaceFills", unfollowed := true, recurses := true, apart := false, narrowed := true }
def SpaceFillsUptoSaid : Prop := spaceFillsUptoRow.holds Try.pinned (OpenSpec.upto spaceFillsSpec)

/-- 'weirkeeperlaw05.SpaceGreatest', WHERE WHAT IT READS IS OF BULK AT MOST 1048576: true; the input reads as it did. -/
def spaceGreatestUptoRow : OpenClaim := { program := "ythcohkgpbjcliaa", sum := "d1f40e979f03d09a02fd29da8954d746984f284cd2635b4357986f6c4ca04479", func := "weirkeeper/weirkeeperlaw05.SpaceGreatest", spec := "spaceGreatest", unfollowed := true, recurses := true, apart := false, narrowed := true }
def SpaceGreatestUptoSaid : Prop := spaceGreatestUptoRow.holds Try.pinned (OpenSpec.upto spaceGreatestSpec)

end Rows
end Go.Proofs.Ythcohkgpbjcliaa
