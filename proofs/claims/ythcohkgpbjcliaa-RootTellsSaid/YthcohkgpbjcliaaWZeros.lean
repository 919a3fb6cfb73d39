-- A part of the print's words, cut by a program of this session (wip/prune.py): what no text of the claim names is left out.
import Derived.Test.YthcohkgpbjcliaaWApart
import Derived.Test.YthcohkgpbjcliaaWArr
namespace Go.Proofs.YthcohkgpbjcliaaW.PrintWords
open Go.RowKit
section
variable {P : Program}
end
namespace Kd
section
variable {P : Program} {ops : Array Oper} {rest : List Oper} {o : Oper} {a : Act} {Q : Exit → Act → World → Prop} {Kc : Act → World → Prop} {α : Type}
end
section
variable {α : Type} {d : Kd α} {e : Nat} {w : World} {base : Nat} {ok : Nat → Prop} {v : Value} {xs : List α}
end
section
variable {P : Program} {ops : Array Oper} {rest : List Oper} {o : Oper} {a : Act} {Q : Exit → Act → World → Prop} {Kc : Act → World → Prop} {α : Type}
end
end Kd
end Go.Proofs.YthcohkgpbjcliaaW.PrintWords
