/- What is held of a world is held behind the making of variables and behind draws: by class. -/
import Derived.Test.YthidkdlmpkeogaaWMore
import Derived.Test.YthidkdlmpkeogaaWWords
namespace Go.Proofs.Ythidkdlmpkeogaa.F
open Go.RowKit Go.Proofs.YthidkdlmpkeogaaW.PrintWords Go.Proofs.YthidkdlmpkeogaaW.PrintLast Go.Proofs.YthidkdlmpkeogaaW.PrintMore
class Up (w w' : World) : Prop where
  b : Below w.heap.size w w'
instance Up.same (w : World) : Up w w := ⟨Below.refl _ _⟩
instance Up.alloc {w w' : World} (o : Obj) [h : Up w w'] : Up w (w'.alloc o) := ⟨below_alloc h.b o⟩
instance Up.drewN {w w' : World} (n : Nat) [h : Up w w'] : Up w (w'.drewN n) := ⟨pw_below_drewN h.b n⟩
instance Up.drew {w w' : World} [h : Up w w'] : Up w w'.drew := ⟨below_drew h.b⟩
theorem bU {w w' : World} {g : Nat} {o : Obj} [h : Up w w'] (x : w.heap[g]? = some o) : w'.heap[g]? = some o := blk_below x h.b
theorem beU {v w w' : World} [h : Up w w'] (x : Below v.heap.size v w) : Below v.heap.size v w' := below_step x h.b
theorem rU {α : Type} {d : Kd α} {e : Nat} {w w' : World} {base : Nat} {ok : Nat → Prop} {v : Value} {xs : List α} [h : Up w w'] (x : Kd.R d e w base ok v xs) : Kd.R d e w' base ok v xs := Kd.R_below x h.b
theorem vU {α : Type} {d : Kd α} {e : Nat} {w w' : World} {base : Nat} {ok : Nat → Prop} {v : Value} {xs : List α} [h : Up w w'] (x : Kd.V d e w base ok v xs) : Kd.V d e w' base ok v xs := Kd.V_below x h.b
theorem neU {w w' : World} {g b : Nat} {o : Obj} [h : Up w w'] (x : w.heap[g]? = some o) (hg : b = w'.heap.size) : g ≠ b := hg ▸ Nat.ne_of_lt (blk_lt (blk_below x h.b))
theorem enU {w w' : World} {g b : Nat} {o : Obj} [h : Up w w'] (x : w.heap[g]? = some o) (hg : b = w'.heap.size) : b ≠ g := (neU x hg).symm
theorem geU {v w w' : World} {b : Nat} [h : Up w w'] (x : Below v.heap.size v w) (hg : b = w'.heap.size) : v.heap.size ≤ b := hg ▸ below_size (below_step x h.b)
end Go.Proofs.Ythidkdlmpkeogaa.F
