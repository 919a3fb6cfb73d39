/- From what a call comes to at abstract values to what the rows ask. -/
import Derived.Test.YthfjcplhjbaplaaAbB
import Derived.Below
set_option linter.all false
namespace Go.Ab
open Go.RowKit
set_option linter.unusedVariables false
variable {P : Program}
theorem APure.calls {f : FuncId} {args : List AV} {x : AV} (h : APure P f args x) (w : World) (vs : Array Value) (hn : vs.size = args.length)
    (hr : ∀ (i : Nat) x u, args[i]? = some x → vs[i]? = some u → Rep (fun _ => False) w x u) :
    Calls P f vs w fun e w' => (∃ u, e = .returned u ∧ Rep (fun _ => False) w' x u) ∧ Below w.heap.size w w' := by
  have h0 : HeapOk (fun _ => False) [] w := ⟨fun p B hB => by simp at hB, fun n hn => absurd hn Tr_nil, fun n hn => hn.elim, fun p q B C n hB => by simp at hB⟩
  refine (h.call (fun _ => False) w vs hn (fun i x u hx hu => (hr i x u hx hu).anti fun b hb => un_nil.1 hb) h0).mono fun e w' => ?_
  rintro ⟨u, r, bs, he, h1, h2, h3, rfl, rfl⟩
  exact ⟨⟨u, he, h1.anti fun b hb => un_nil.2 hb⟩, h3.os, h3.tape, h3.output, h3.size, fun k hk => h3.old k hk Tr_nil⟩
/-- A call that answers true. -/
theorem APure.truth {f : FuncId} {args : List AV} (h : APure P f args (.v (.bool true))) (w : World) (vs : Array Value) (hn : vs.size = args.length)
    (hr : ∀ (i : Nat) x u, args[i]? = some x → vs[i]? = some u → Rep (fun _ => False) w x u) :
    Calls P f vs w fun e w' => e = .returned (.bool true) ∧ Below w.heap.size w w' :=
  (h.calls w vs hn hr).mono fun e w' => by
    rintro ⟨⟨u, he, hu⟩, hb⟩
    cases hu
    exact ⟨he, hb⟩
end Go.Ab
