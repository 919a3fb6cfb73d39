/- The fixed answer of the laws on space. -/
import Derived.Test.YthcohkgpbjcliaaFlaw05awake
import Derived.Test.YthcohkgpbjcliaaPlSpace
namespace Go.Proofs.Ythcohkgpbjcliaa.Pl
open Go.RowKit Go.Proofs.Ythcohkgpbjcliaa.F Go.Proofs.YthcohkgpbjcliaaW.PrintWords Go.Proofs.YthcohkgpbjcliaaW.PrintLast Go.Proofs.YthcohkgpbjcliaaW.PrintMore
set_option linter.unusedVariables false
set_option linter.unusedSimpArgs false
theorem xs_inj : ∀ {l m : List E}, xs l = xs m → l = m
  | [], [], _ => rfl
  | x :: l, y :: m, h => by
    obtain ⟨h1, h2⟩ := List.cons.inj (show (x.f0, x.f1) :: xs l = (y.f0, y.f1) :: xs m from h)
    obtain ⟨x0, x1⟩ := x
    obtain ⟨y0, y1⟩ := y
    obtain ⟨rfl, rfl⟩ := Prod.mk.inj h1
    rw [xs_inj h2]
theorem awake5 (k : Nat) (hk : 8 < k) : weirkeeperlaw05_awake.f k = some true := by
  have hm : MayX 0 10 (xs [(⟨2, 2⟩ : E)]) := may_one (by decide) (by decide) (by decide) (by decide) (by decide)
  have hF : FR 0 10 [(⟨2, 2⟩ : E)] = xs [⟨0, 2⟩, ⟨4, 6⟩] := by unfold FR; rw [sort_one]; rfl
  have hn : ¬ MayX 0 10 (xs [(⟨2, 2⟩ : E), ⟨2, 2⟩]) := fun h => by
    have := (List.pairwise_cons.1 h.2.2.2.2).1 (2, 2) (by simp [xs])
    unfold Disj at this
    simp at this
  obtain ⟨o, e1, e2⟩ := free_true hm (by simp) k (by simp; omega)
  rw [hF] at e2
  have e3 := xs_inj e2
  subst e3
  have f1 := fit_good (n := 3) hm (by decide) (by decide) (by simp) k (by simp; omega)
  have f2 := fit_good (n := 7) hm (by decide) (by decide) (by simp) k (by simp; omega)
  have f3 := fit_bad (n := 1) (.inl hn) (by simp) k (by simp; omega)
  rw [hF] at f1 f2
  have g1 : space_Fit.f k 3 0 10 [(⟨2, 2⟩ : E)] = some (4, 3, 0) := f1
  have g2 : space_Fit.f k 7 0 10 [(⟨2, 2⟩ : E)] = some (0, 0, 5) := f2
  have l1 := left_true hm (by simp) k (by simp; omega)
  have l2 : space_Left.f k 0 10 [(⟨2, 2⟩ : E)] = some 8 := l1
  unfold weirkeeperlaw05_awake.f
  rw [e1, Option.bind_some, g1, Option.bind_some, g2, Option.bind_some, f3, Option.bind_some, l2, (right_true hm (by simp) k (by simp; omega)).1]
  rfl
end Go.Proofs.Ythcohkgpbjcliaa.Pl
