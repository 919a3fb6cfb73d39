/-
  No cell of these rows narrows 'for every input' (looked for: loops, veiled, ifaces, maps, wideKeys, modest, calm, conditions, laid).
  DERIVED. THE GIVEN ROWS OF THIS SEAT. 12 by the template 'for every input the law returns true; each argument reads behind the call as it read before'; 0 by the template 'total and deterministic' (their statements: YtgccimhdbphenaaTotals.lean).
  GIVEN WITH THE SEED: the statements are not yours to turn. If you find one false, say at which input.
  Laid BY PROGRAM, IN A SANDBOX (cutbox-rows.mjs): the forced cells as the released guide's own fill.sh prints them over the translation 4ad903482d498b82… (all of the seat's roots in one cut). By AI agents, Wed Nov 11 2026. No macro, syntax, notation, axiom, sorry.
-/
import Derived.Test.YtgccimhdbphenaaChecked
import GoSem.Claim
import GoSem.ClaimJoined
import GoSem.ClaimMapViews
import Derived.JoinedTies
import Derived.KernelRfl
namespace Go.Proofs.Ytgccimhdbphenaa
/- THE CELL 'sum', in the pinned program and in every row, IS THE sha256 OF THE DUMP (.gsa) THAT YtgccimhdbphenaaProg.lean LOADS. Nothing in Lean hashes anything: it is a label: what it is worth is what the hold of that sum in a sandbox is worth. -/
noncomputable def Try.pinned : Pinned := { name := "ytgccimhdbphenaa", sum := "4ad903482d498b82fd4c1ffb428289cd74285ab13371bff341d4dc4f03d111a4", checked := Try.checked }
namespace Rows
def none {H : Type} : Left H := { results := [], args := [] }

/-- 'weirkeeperlaw01.PackNums': WHATEVER THE INPUT: true; the input reads as it did. -/
def packNumsSpec : ChangeSpec := { name := "packNums", fn := fun _ => fun
  | [d1, d2, d3] => { results := [.lit (.bool true)], args := [d1, d2, d3] }
  | _ => none }
def packNumsRow : OpenClaim := { program := "ytgccimhdbphenaa", sum := "4ad903482d498b82fd4c1ffb428289cd74285ab13371bff341d4dc4f03d111a4", func := "weirkeeper/weirkeeperlaw01.PackNums", spec := "packNums", apart := false }
def PackNumsSaid : Prop := packNumsRow.holds Try.pinned (OpenSpec.ofChange packNumsSpec)

/-- ITS FALSE NEIGHBOUR: 'it returns false'. Refute it at one input. -/
def packNumsWrong : ChangeSpec := { name := "packNums", fn := fun _ => fun
  | [d1, d2, d3] => { results := [.lit (.bool false)], args := [d1, d2, d3] }
  | _ => none }
def PackNumsWrongFalsely : Prop := packNumsRow.holds Try.pinned (OpenSpec.ofChange packNumsWrong)

/-- 'weirkeeperlaw01.PackTexts': WHATEVER THE INPUT: true; the input reads as it did. -/
def packTextsSpec : ChangeSpec := { name := "packTexts", fn := fun _ => fun
  | [d1, d2] => { results := [.lit (.bool true)], args := [d1, d2] }
  | _ => none }
def packTextsRow : OpenClaim := { program := "ytgccimhdbphenaa", sum := "4ad903482d498b82fd4c1ffb428289cd74285ab13371bff341d4dc4f03d111a4", func := "weirkeeper/weirkeeperlaw01.PackTexts", spec := "packTexts", apart := false }
def PackTextsSaid : Prop := packTextsRow.holds Try.pinned (OpenSpec.ofChange packTextsSpec)

/-- ITS FALSE NEIGHBOUR: 'it returns false'. Refute it at one input. -/
def packTextsWrong : ChangeSpec := { name := "packTexts", fn := fun _ => fun
  | [d1, d2] => { results := [.lit (.bool false)], args := [d1, d2] }
  | _ => none }
def PackTextsWrongFalsely : Prop := packTextsRow.holds Try.pinned (OpenSpec.ofChange packTextsWrong)

/-- 'weirkeeperlaw01.PackBack': WHATEVER THE INPUT: true; the input reads as it did. -/
def packBackSpec : ChangeSpec := { name := "packBack", fn := fun _ => fun
  | [d1, d2, d3, d4] => { results := [.lit (.bool true)], args := [d1, d2, d3, d4] }
  | _ => none }
def packBackRow : OpenClaim := { program := "ytgccimhdbphenaa", sum := "4ad903482d498b82fd4c1ffb428289cd74285ab13371bff341d4dc4f03d111a4", func := "weirkeeper/weirkeeperlaw01.PackBack", spec := "packBack", apart := false }
def PackBackSaid : Prop := packBackRow.holds Try.pinned (OpenSpec.ofChange packBackSpec)

/-- ITS FALSE NEIGHBOUR: 'it returns false'. Refute it at one input. -/
def packBackWrong : ChangeSpec := { name := "packBack", fn := fun _ => fun
  | [d1, d2, d3, d4] => { results := [.lit (.bool false)], args := [d1, d2, d3, d4] }
  | _ => none }
def PackBackWrongFalsely : Prop := packBackRow.holds Try.pinned (OpenSpec.ofChange packBackWrong)

/-- 'weirkeeperlaw01.PackOrder': WHATEVER THE INPUT: true; the input reads as it did. -/
def packOrderSpec : ChangeSpec := { name := "packOrder", fn := fun _ => fun
  | [d1, d2, d3] => { results := [.lit (.bool true)], args := [d1, d2, d3] }
  | _ => none }
def packOrderRow : OpenClaim := { program := "ytgccimhdbphenaa", sum := "4ad903482d498b82fd4c1ffb428289cd74285ab13371bff341d4dc4f03d111a4", func := "weirkeeper/weirkeeperlaw01.PackOrder", spec := "packOrder", apart := false }
def PackOrderSaid : Prop := packOrderRow.holds Try.pinned (OpenSpec.ofChange packOrderSpec)

/-- ITS FALSE NEIGHBOUR: 'it returns false'. Refute it at one input. -/
def packOrderWrong : ChangeSpec := { name := "packOrder", fn := fun _ => fun
  | [d1, d2, d3] => { results := [.lit (.bool false)], args := [d1, d2, d3] }
  | _ => none }
def PackOrderWrongFalsely : Prop := packOrderRow.holds Try.pinned (OpenSpec.ofChange packOrderWrong)

/-- 'weirkeeperlaw01.PackLong': WHATEVER THE INPUT: true; the input reads as it did. -/
def packLongSpec : ChangeSpec := { name := "packLong", fn := fun _ => fun
  | [d1, d2] => { results := [.lit (.bool true)], args := [d1, d2] }
  | _ => none }
def packLongRow : OpenClaim := { program := "ytgccimhdbphenaa", sum := "4ad903482d498b82fd4c1ffb428289cd74285ab13371bff341d4dc4f03d111a4", func := "weirkeeper/weirkeeperlaw01.PackLong", spec := "packLong", apart := false }
def PackLongSaid : Prop := packLongRow.holds Try.pinned (OpenSpec.ofChange packLongSpec)

/-- ITS FALSE NEIGHBOUR: 'it returns false'. Refute it at one input. -/
def packLongWrong : ChangeSpec := { name := "packLong", fn := fun _ => fun
  | [d1, d2] => { results := [.lit (.bool false)], args := [d1, d2] }
  | _ => none }
def PackLongWrongFalsely : Prop := packLongRow.holds Try.pinned (OpenSpec.ofChange packLongWrong)

/-- 'weirkeeperlaw01.PackJoins': WHATEVER THE INPUT: true; the input reads as it did. -/
def packJoinsSpec : ChangeSpec := { name := "packJoins", fn := fun _ => fun
  | [d1, d2] => { results := [.lit (.bool true)], args := [d1, d2] }
  | _ => none }
def packJoinsRow : OpenClaim := { program := "ytgccimhdbphenaa", sum := "4ad903482d498b82fd4c1ffb428289cd74285ab13371bff341d4dc4f03d111a4", func := "weirkeeper/weirkeeperlaw01.PackJoins", spec := "packJoins", apart := false }
def PackJoinsSaid : Prop := packJoinsRow.holds Try.pinned (OpenSpec.ofChange packJoinsSpec)

/-- ITS FALSE NEIGHBOUR: 'it returns false'. Refute it at one input. -/
def packJoinsWrong : ChangeSpec := { name := "packJoins", fn := fun _ => fun
  | [d1, d2] => { results := [.lit (.bool false)], args := [d1, d2] }
  | _ => none }
def PackJoinsWrongFalsely : Prop := packJoinsRow.holds Try.pinned (OpenSpec.ofChange packJoinsWrong)

/-- 'weirkeeperlaw01.PackBytes': WHATEVER THE INPUT: true; the input reads as it did. -/
def packBytesSpec : ChangeSpec := { name := "packBytes", fn := fun _ => fun
  | [d1, d2, d3] => { results := [.lit (.bool true)], args := [d1, d2, d3] }
  | _ => none }
def packBytesRow : OpenClaim := { program := "ytgccimhdbphenaa", sum := "4ad903482d498b82fd4c1ffb428289cd74285ab13371bff341d4dc4f03d111a4", func := "weirkeeper/weirkeeperlaw01.PackBytes", spec := "packBytes", apart := false }
def PackBytesSaid : Prop := packBytesRow.holds Try.pinned (OpenSpec.ofChange packBytesSpec)

/-- ITS FALSE NEIGHBOUR: 'it returns false'. Refute it at one input. -/
def packBytesWrong : ChangeSpec := { name := "packBytes", fn := fun _ => fun
  | [d1, d2, d3] => { results := [.lit (.bool false)], args := [d1, d2, d3] }
  | _ => none }
def PackBytesWrongFalsely : Prop := packBytesRow.holds Try.pinned (OpenSpec.ofChange packBytesWrong)

/-- 'weirkeeperlaw09.NoteBoth': WHATEVER THE INPUT: true; the input reads as it did. -/
def noteBothSpec : ChangeSpec := { name := "noteBoth", fn := fun _ => fun
  | [d1, d2, d3, d4, d5] => { results := [.lit (.bool true)], args := [d1, d2, d3, d4, d5] }
  | _ => none }
def noteBothRow : OpenClaim := { program := "ytgccimhdbphenaa", sum := "4ad903482d498b82fd4c1ffb428289cd74285ab13371bff341d4dc4f03d111a4", func := "weirkeeper/weirkeeperlaw09.NoteBoth", spec := "noteBoth", apart := false }
def NoteBothSaid : Prop := noteBothRow.holds Try.pinned (OpenSpec.ofChange noteBothSpec)

/-- ITS FALSE NEIGHBOUR: 'it returns false'. Refute it at one input. -/
def noteBothWrong : ChangeSpec := { name := "noteBoth", fn := fun _ => fun
  | [d1, d2, d3, d4, d5] => { results := [.lit (.bool false)], args := [d1, d2, d3, d4, d5] }
  | _ => none }
def NoteBothWrongFalsely : Prop := noteBothRow.holds Try.pinned (OpenSpec.ofChange noteBothWrong)

/-- 'weirkeeperlaw09.NoteAdds': WHATEVER THE INPUT: true; the input reads as it did. -/
def noteAddsSpec : ChangeSpec := { name := "noteAdds", fn := fun _ => fun
  | [d1, d2, d3, d4] => { results := [.lit (.bool true)], args := [d1, d2, d3, d4] }
  | _ => none }
def noteAddsRow : OpenClaim := { program := "ytgccimhdbphenaa", sum := "4ad903482d498b82fd4c1ffb428289cd74285ab13371bff341d4dc4f03d111a4", func := "weirkeeper/weirkeeperlaw09.NoteAdds", spec := "noteAdds", apart := false }
def NoteAddsSaid : Prop := noteAddsRow.holds Try.pinned (OpenSpec.ofChange noteAddsSpec)

/-- ITS FALSE NEIGHBOUR: 'it returns false'. Refute it at one input. -/
def noteAddsWrong : ChangeSpec := { name := "noteAdds", fn := fun _ => fun
  | [d1, d2, d3, d4] => { results := [.lit (.bool false)], args := [d1, d2, d3, d4] }
  | _ => none }
def NoteAddsWrongFalsely : Prop := noteAddsRow.holds Try.pinned (OpenSpec.ofChange noteAddsWrong)

/-- 'weirkeeperlaw09.NoteLast': WHATEVER THE INPUT: true; the input reads as it did. -/
def noteLastSpec : ChangeSpec := { name := "noteLast", fn := fun _ => fun
  | [d1, d2, d3, d4, d5, d6, d7] => { results := [.lit (.bool true)], args := [d1, d2, d3, d4, d5, d6, d7] }
  | _ => none }
def noteLastRow : OpenClaim := { program := "ytgccimhdbphenaa", sum := "4ad903482d498b82fd4c1ffb428289cd74285ab13371bff341d4dc4f03d111a4", func := "weirkeeper/weirkeeperlaw09.NoteLast", spec := "noteLast", apart := false }
def NoteLastSaid : Prop := noteLastRow.holds Try.pinned (OpenSpec.ofChange noteLastSpec)

/-- ITS FALSE NEIGHBOUR: 'it returns false'. Refute it at one input. -/
def noteLastWrong : ChangeSpec := { name := "noteLast", fn := fun _ => fun
  | [d1, d2, d3, d4, d5, d6, d7] => { results := [.lit (.bool false)], args := [d1, d2, d3, d4, d5, d6, d7] }
  | _ => none }
def NoteLastWrongFalsely : Prop := noteLastRow.holds Try.pinned (OpenSpec.ofChange noteLastWrong)

/-- 'weirkeeperlaw09.NoteChain': WHATEVER THE INPUT: true; the input reads as it did. -/
def noteChainSpec : ChangeSpec := { name := "noteChain", fn := fun _ => fun
  | [d1, d2, d3] => { results := [.lit (.bool true)], args := [d1, d2, d3] }
  | _ => none }
def noteChainRow : OpenClaim := { program := "ytgccimhdbphenaa", sum := "4ad903482d498b82fd4c1ffb428289cd74285ab13371bff341d4dc4f03d111a4", func := "weirkeeper/weirkeeperlaw09.NoteChain", spec := "noteChain", apart := false }
def NoteChainSaid : Prop := noteChainRow.holds Try.pinned (OpenSpec.ofChange noteChainSpec)

/-- ITS FALSE NEIGHBOUR: 'it returns false'. Refute it at one input. -/
def noteChainWrong : ChangeSpec := { name := "noteChain", fn := fun _ => fun
  | [d1, d2, d3] => { results := [.lit (.bool false)], args := [d1, d2, d3] }
  | _ => none }
def NoteChainWrongFalsely : Prop := noteChainRow.holds Try.pinned (OpenSpec.ofChange noteChainWrong)

/-- 'weirkeeperlaw09.NoteKinds': WHATEVER THE INPUT: true; the input reads as it did. -/
def noteKindsSpec : ChangeSpec := { name := "noteKinds", fn := fun _ => fun
  | [d1, d2, d3] => { results := [.lit (.bool true)], args := [d1, d2, d3] }
  | _ => none }
def noteKindsRow : OpenClaim := { program := "ytgccimhdbphenaa", sum := "4ad903482d498b82fd4c1ffb428289cd74285ab13371bff341d4dc4f03d111a4", func := "weirkeeper/weirkeeperlaw09.NoteKinds", spec := "noteKinds", apart := false }
def NoteKindsSaid : Prop := noteKindsRow.holds Try.pinned (OpenSpec.ofChange noteKindsSpec)

/-- ITS FALSE NEIGHBOUR: 'it returns false'. Refute it at one input. -/
def noteKindsWrong : ChangeSpec := { name := "noteKinds", fn := fun _ => fun
  | [d1, d2, d3] => { results := [.lit (.bool false)], args := [d1, d2, d3] }
  | _ => none }
def NoteKindsWrongFalsely : Prop := noteKindsRow.holds Try.pinned (OpenSpec.ofChange noteKindsWrong)

/- THE SECOND FORM. 'bulk': how many values and letters a reading holds, each counted each time it is reached (what is shared counts as often as it is met; a slice's spare places count too). A statement '..UptoSaid' is the law's where the arguments, and the package variables that the reading takes, are together of bulk at most 1048576: NARROWER than '..Said'. Prove '..Said' where nothing that the law and all that it calls make is longer than what came in: it says more and counts as full. Else prove '..UptoSaid'. A law counts once. -/
mutual
def uptoBulk {H : Type} : DataW H → Nat
  | .lit (.string bytes) => bytes.length + 1
  | .lit _ => 1
  | .nil => 1
  | .ptr d => uptoBulk d + 1
  | .slice elems spare => uptoBulkAll elems + uptoBulkAll spare + 1
  | .agg parts => uptoBulkAll parts + 1
  | .iface _ d => uptoBulk d + 1
  | .map entries => uptoBulkEntries entries + 1
  | .held _ => 1
def uptoBulkAll {H : Type} : List (DataW H) → Nat
  | [] => 0
  | d :: r => uptoBulk d + uptoBulkAll r
def uptoBulkEntries {H : Type} : List (Lit × DataW H) → Nat
  | [] => 0
  | x :: r => uptoBulkEntry x + uptoBulkEntries r
def uptoBulkEntry {H : Type} : Lit × DataW H → Nat
  | (.string bytes, d) => bytes.length + uptoBulk d + 1
  | (_, d) => uptoBulk d + 1
 end
def uptoSmall : (H : Type) → List (DataW H) → Bool := fun _ ds => decide (uptoBulkAll ds ≤ 1048576)
def OpenSpec.upto (s : _root_.Go.ChangeSpec) : _root_.Go.OpenSpec := { _root_.Go.OpenSpec.ofChange s with cond := some uptoSmall }

/-- 'weirkeeperlaw01.PackNums', WHERE WHAT IT READS IS OF BULK AT MOST 1048576: true; the input reads as it did. -/
def packNumsUptoRow : OpenClaim := { program := "ytgccimhdbphenaa", sum := "4ad903482d498b82fd4c1ffb428289cd74285ab13371bff341d4dc4f03d111a4", func := "weirkeeper/weirkeeperlaw01.PackNums", spec := "packNums", apart := false, narrowed := true }
def PackNumsUptoSaid : Prop := packNumsUptoRow.holds Try.pinned (OpenSpec.upto packNumsSpec)

/-- 'weirkeeperlaw01.PackTexts', WHERE WHAT IT READS IS OF BULK AT MOST 1048576: true; the input reads as it did. -/
def packTextsUptoRow : OpenClaim := { program := "ytgccimhdbphenaa", sum := "4ad903482d498b82fd4c1ffb428289cd74285ab13371bff341d4dc4f03d111a4", func := "weirkeeper/weirkeeperlaw01.PackTexts", spec := "packTexts", apart := false, narrowed := true }
def PackTextsUptoSaid : Prop := packTextsUptoRow.holds Try.pinned (OpenSpec.upto packTextsSpec)

/-- 'weirkeeperlaw01.PackBack', WHERE WHAT IT READS IS OF BULK AT MOST 1048576: true; the input reads as it did. -/
def packBackUptoRow : OpenClaim := { program := "ytgccimhdbphenaa", sum := "4ad903482d498b82fd4c1ffb428289cd74285ab13371bff341d4dc4f03d111a4", func := "weirkeeper/weirkeeperlaw01.PackBack", spec := "packBack", apart := false, narrowed := true }
def PackBackUptoSaid : Prop := packBackUptoRow.holds Try.pinned (OpenSpec.upto packBackSpec)

/-- 'weirkeeperlaw01.PackOrder', WHERE WHAT IT READS IS OF BULK AT MOST 1048576: true; the input reads as it did. -/
def packOrderUptoRow : OpenClaim := { program := "ytgccimhdbphenaa", sum := "4ad903482d498b82fd4c1ffb428289cd74285ab13371bff341d4dc4f03d111a4", func := "weirkeeper/weirkeeperlaw01.PackOrder", spec := "packOrder", apart := false, narrowed := true }
def PackOrderUptoSaid : Prop := packOrderUptoRow.holds Try.pinned (OpenSpec.upto packOrderSpec)

/-- 'weirkeeperlaw01.PackLong', WHERE WHAT IT READS IS OF BULK AT MOST 1048576: true; the input reads as it did. -/
def packLongUptoRow : OpenClaim := { program := "ytgccimhdbphenaa", sum := "4ad903482d498b82fd4c1ffb428289cd74285ab13371bff341d4dc4f03d111a4", func := "weirkeeper/weirkeeperlaw01.PackLong", spec := "packLong", apart := false, narrowed := true }
def PackLongUptoSaid : Prop := packLongUptoRow.holds Try.pinned (OpenSpec.upto packLongSpec)

/-- 'weirkeeperlaw01.PackJoins', WHERE WHAT IT READS IS OF BULK AT MOST 1048576: true; the input reads as it did. -/
def packJoinsUptoRow : OpenClaim := { program := "ytgccimhdbphenaa", sum := "4ad903482d498b82fd4c1ffb428289cd74285ab13371bff341d4dc4f03d111a4", func := "weirkeeper/weirkeeperlaw01.PackJoins", spec := "packJoins", apart := false, narrowed := true }
def PackJoinsUptoSaid : Prop := packJoinsUptoRow.holds Try.pinned (OpenSpec.upto packJoinsSpec)

/-- 'weirkeeperlaw01.PackBytes', WHERE WHAT IT READS IS OF BULK AT MOST 1048576: true; the input reads as it did. -/
def packBytesUptoRow : OpenClaim := { program := "ytgccimhdbphenaa", sum := "4ad903482d498b82fd4c1ffb428289cd74285ab13371bff341d4dc4f03d111a4", func := "weirkeeper/weirkeeperlaw01.PackBytes", spec := "packBytes", apart := false, narrowed := true }
def PackBytesUptoSaid : Prop := packBytesUptoRow.holds Try.pinned (OpenSpec.upto packBytesSpec)

/-- 'weirkeeperlaw09.NoteBoth', WHERE WHAT IT READS IS OF BULK AT MOST 1048576: true; the input reads as it did. -/
def noteBothUptoRow : OpenClaim := { program := "ytgccimhdbphenaa", sum := "4ad903482d498b82fd4c1ffb428289cd74285ab13371bff341d4dc4f03d111a4", func := "weirkeeper/weirkeeperlaw09.NoteBoth", spec := "noteBoth", apart := false, narrowed := true }
def NoteBothUptoSaid : Prop := noteBothUptoRow.holds Try.pinned (OpenSpec.upto noteBothSpec)

/-- 'weirkeeperlaw09.NoteAdds', WHERE WHAT IT READS IS OF BULK AT MOST 1048576: true; the input reads as it did. -/
def noteAddsUptoRow : OpenClaim := { program := "ytgccimhdbphenaa", sum := "4ad903482d498b82fd4c1ffb428289cd74285ab13371bff341d4dc4f03d111a4", func := "weirkeeper/weirkeeperlaw09.NoteAdds", spec := "noteAdds", apart := false, narrowed := true }
def NoteAddsUptoSaid : Prop := noteAddsUptoRow.holds Try.pinned (OpenSpec.upto noteAddsSpec)

/-- 'weirkeeperlaw09.NoteLast', WHERE WHAT IT READS IS OF BULK AT MOST 1048576: true; the input reads as it did. -/
def noteLastUptoRow : OpenClaim := { program := "ytgccimhdbphenaa", sum := "4ad903482d498b82fd4c1ffb428289cd74285ab13371bff341d4dc4f03d111a4", func := "weirkeeper/weirkeeperlaw09.NoteLast", spec := "noteLast", apart := false, narrowed := true }
def NoteLastUptoSaid : Prop := noteLastUptoRow.holds Try.pinned (OpenSpec.upto noteLastSpec)

/-- 'weirkeeperlaw09.NoteChain', WHERE WHAT IT READS IS OF BULK AT MOST 1048576: true; the input reads as it did. -/
def noteChainUptoRow : OpenClaim := { program := "ytgccimhdbphenaa", sum := "4ad903482d498b82fd4c1ffb428289cd74285ab13371bff341d4dc4f03d111a4", func := "weirkeeper/weirkeeperlaw09.NoteChain", spec := "noteChain", apart := false, narrowed := true }
def NoteChainUptoSaid : Prop := noteChainUptoRow.holds Try.pinned (OpenSpec.upto noteChainSpec)

/-- 'weirkeeperlaw09.NoteKinds', WHERE WHAT IT READS IS OF BULK AT MOST 1048576: true; the input reads as it did. -/
def noteKindsUptoRow : OpenClaim := { program := "ytgccimhdbphenaa", sum := "4ad903482d498b82fd4c1ffb428289cd74285ab13371bff341d4dc4f03d111a4", func := "weirkeeper/weirkeeperlaw09.NoteKinds", spec := "noteKinds", apart := false, narrowed := true }
def NoteKindsUptoSaid : Prop := noteKindsUptoRow.holds Try.pinned (OpenSpec.upto noteKindsSpec)

end Rows
end Go.Proofs.Ytgccimhdbphenaa
