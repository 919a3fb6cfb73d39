/- Ghosts: what nothing is, is nobody's or mine. -/
import Derived.Test.YthfjcplhjbaplaaAb20
set_option linter.all false
namespace Go.Ab
set_option linter.unusedVariables false
variable {P : Program}
/-- A frame in which one temporary is another thing. -/
def putF : Fr → Nat → AV → Fr
  | [], d, x => [(d, x)]
  | (k, y) :: r, d, x => if k = d then (k, x) :: r else (k, y) :: putF r d x
theorem get_putF (fr : Fr) (d : Nat) (x : AV) (t : Nat) : get (putF fr d x) t = if d = t then x else get fr t := by
  induction fr with
  | nil => simp only [putF, get]
  | cons a r ih =>
    obtain ⟨k, y⟩ := a
    simp only [putF]
    by_cases e : k = d
    · subst e; simp only [if_true, get]
      by_cases e2 : k = t <;> simp only [e2, if_true, if_false]
    · simp only [if_neg e, get, ih]
      by_cases e2 : k = t
      · subst e2; simp only [if_true, if_neg (Ne.symm e)]
      · simp only [if_neg e2]
theorem Tr_virt {hp : List Blk} {k : Nat} {t : TypeId} {c : List AV} {b : Nat} : Tr (hp ++ [⟨true, none, k, t, c⟩]) b ↔ Tr hp b :=
  ⟨fun h => (Tr_app h).elim (fun h => by cases h.2) id, Tr_app_of⟩
theorem HeapOk.virt {X hp w} (h : HeapOk X hp w) (k : Nat) (t : TypeId) : HeapOk X (hp ++ [⟨true, none, k, t, []⟩]) w where
  ok p B hp' hl := by
    have hu : ∀ b, un X (hp ++ [⟨true, none, k, t, []⟩]) b → un X hp b := fun b hb => hb.imp id Tr_virt.1
    rcases Nat.lt_or_ge p hp.length with c | c
    · rw [List.getElem?_append_left c] at hp'; exact (h.ok p B hp' hl).anti hu
    · rw [List.getElem?_append_right c] at hp'
      cases hq : p - hp.length with
      | zero => rw [hq] at hp'; cases hp'; exact ⟨fun _ => rfl, nofun⟩
      | succ q => rw [hq] at hp'; cases hp'
  out n hn := h.out n (Tr_virt.1 hn)
  lt := h.lt
  one p q B C n h1 h2 h3 h4 h5 h6 := by
    have key : ∀ (p : Nat) B, (hp ++ [(⟨true, none, k, t, []⟩ : Blk)])[p]? = some B → B.b = some n → hp[p]? = some B := fun p B h1 h5 => by
      rcases Nat.lt_or_ge p hp.length with c | c
      · rwa [List.getElem?_append_left c] at h1
      · rw [List.getElem?_append_right c] at h1
        cases hq : p - hp.length with
        | zero => rw [hq] at h1; cases h1; cases h5
        | succ q => rw [hq] at h1; cases h1
    exact h.one p q B C n (key p B h1 h5) (key q C h2 h6) h3 h4 h5 h6

/-- Nothing is a slice of mine. -/
theorem W.virt {C : Cfg} {R : Fr → List Blk → Prop} {c : Code} {s : List It} {fr : Fr} {hp : List Blk} (d k : Nat) (t : TypeId) (hd : get fr d = .nils)
    (h : W P C R (.code c :: s) (putF fr d (.own hp.length k none 0 0)) (hp ++ [⟨true, none, k, t, []⟩])) : W P C R (.code c :: s) fr hp := by
  refine .weak _ _ (fun X a w hS => ⟨⟨hS.size, hS.defers, fun q => ?_, hS.heap.virt k t⟩, fun b hb => Tr_virt.1 hb⟩) h
  rw [get_putF]
  by_cases e : d = q
  · subst e
    rw [if_pos rfl]
    have := hS.rep d
    rw [hd] at this
    generalize a.tmps.getD d undef = u at this
    cases this
    exact .ownE _ _ _ _ _
  · rw [if_neg e]
    exact (hS.rep q).anti fun b hb => hb.imp id Tr_virt.1
attribute [go_sem] putF
end Go.Ab
