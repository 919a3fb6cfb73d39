/- One sector fits behind the other, from the first free one on, till none is left. -/
import Derived.Test.YthcohkgpbjcliaaFlaw05SpaceFills
import Derived.Test.YthcohkgpbjcliaaPlAwake05
namespace Go.Proofs.Ythcohkgpbjcliaa.PlSpaceFills
open Go.RowKit Go.Proofs.Ythcohkgpbjcliaa.F Go.Proofs.YthcohkgpbjcliaaW.PrintWords Go.Proofs.YthcohkgpbjcliaaW.PrintLast Go.Proofs.YthcohkgpbjcliaaW.PrintMore Go.Proofs.Ythcohkgpbjcliaa.Pl
set_option linter.unusedVariables false
set_option linter.unusedSimpArgs false
theorem FR_sep {a b : Int} {l : List E} (h : MayX a b (xs l)) : Sep a b (FR a b l) := free_sep (chain_may h (sorts l))
theorem FR_sum {a b : Int} {l : List E} (h : MayX a b (xs l)) : sumX (FR a b l) = b - a - sumX (xs l) := by
  have := free_sum (chain_may h (sorts l))
  rw [sumX_perm (sorts l).1] at this
  exact this
theorem loop (a b : Int) (hab : b - a ≤ 40) : ∀ (d j k : Nat) (last : Int) (U : List E), d + j ≤ 40 → d + 80 < k → U.length + d ≤ 60 → MayX a b (xs U) → b - a - sumX (xs U) = d → (∀ s, CovX s (FR a b U) → last < s) →
    weirkeeperlaw05_SpaceFills.l0 k a b last U ((d + j : Nat) : Int) (j : Int) = some true
  | 0, j, k, last, U, hd, hk, hU, hm, hs, hl => by
    obtain ⟨k, rfl⟩ : ∃ m, k = m + 1 := ⟨k - 1, by omega⟩
    have h1 := FR_sep hm
    have h2 := FR_sum hm
    have h3 : FR a b U = [] := by
      cases hf : FR a b U with
      | nil => rfl
      | cons x f =>
        rw [hf] at h1 h2
        have b1 := (h1.1 x List.mem_cons_self).2.1
        have b2 := sum_nonneg f (fun y hy => by have := (h1.1 y (List.mem_cons_of_mem _ hy)).2.1; omega)
        simp only [sumX] at h2
        omega
    obtain ⟨o, e1, e2⟩ := free_true hm (by omega) k (by omega)
    have e3 : o = [] := by
      have := congrArg List.length e2
      rw [xs_length, h3] at this
      exact List.length_eq_zero_iff.1 this
    rw [weirkeeperlaw05_SpaceFills.l0, if_neg (by omega), fit_good hm (by omega) (by omega) (by omega) k (by omega), Option.bind_some, h3]
    show (if (5 : Int) = 5 then _ else _) = _
    rw [if_pos rfl, e1, Option.bind_some, e3, if_pos (by simp), awake5 k (by omega)]
    rfl
  | d + 1, j, k, last, U, hd, hk, hU, hm, hs, hl => by
    obtain ⟨k, rfl⟩ : ∃ m, k = m + 1 := ⟨k - 1, by omega⟩
    have h1 := FR_sep hm
    have h2 := FR_sum hm
    have hin := free_in hm (sorts U)
    have b4 := hm.2.2.1
    have b5 := hm.1
    rw [weirkeeperlaw05_SpaceFills.l0, if_pos (by omega), fit_good hm (by omega) (by omega) (by omega) k (by omega), Option.bind_some]
    cases hf : FR a b U with
    | nil =>
      rw [hf] at h2
      simp only [sumX] at h2
      omega
    | cons x f =>
      rw [hf] at h1 hl
      obtain ⟨⟨x1, x2, x3⟩, hs'⟩ := sep_cons h1
      rw [List.find?_cons_of_pos (by simpa using x2)]
      have hx := hl x.1 (CovX_cons.2 (.inl ⟨by omega, by omega⟩))
      show (if (0 : Int) = 0 then (if (1 : Int) = 1 then (if x.1 ≤ last then _ else _) else _) else _) = _
      rw [if_pos rfl, if_pos rfl, if_neg (by omega), if_pos (by omega), wrap64_in (by omega) (by omega), show ((j : Int) + 1) = ((j + 1 : Nat) : Int) by omega, show d + 1 + j = d + (j + 1) by omega]
      have hfree : ∀ s, InX s (x.1, (1 : Int)) → ¬ CovX s (xs U) := fun s hi => by
        have i1 := hi.1
        have i2 := hi.2
        simp only at i1 i2
        have : CovX s (FR a b U) := by rw [hf]; exact CovX_cons.2 (.inl ⟨by omega, by omega⟩)
        exact ((hin s).1 this).2.2
      have e : xs (U ++ [(⟨x.1, 1⟩ : E)]) = xs U ++ [(x.1, (1 : Int))] := xs_append _ _
      have hm' : MayX a b (xs (U ++ [(⟨x.1, 1⟩ : E)])) := by
        rw [e]
        exact may_add hm ⟨x1, by simp, by simp; omega⟩ hfree
      refine loop a b hab d (j + 1) k x.1 (U ++ [⟨x.1, 1⟩]) (by omega) (by omega) (by simp; omega) hm' (by rw [e, sumX_append]; simp only [sumX]; omega) fun s hc => ?_
      have h5 := (free_in hm' (sorts (U ++ [(⟨x.1, 1⟩ : E)])) s).1 hc
      rw [e, CovX_append, CovX_one] at h5
      have h6 : CovX s (FR a b U) := (hin s).2 ⟨h5.1, h5.2.1, fun h => h5.2.2 (.inl h)⟩
      rw [hf] at h6
      have h7 : ¬ InX s (x.1, (1 : Int)) := fun h => h5.2.2 (.inr h)
      have h8 : x.1 ≤ s := by
        rcases CovX_cons.1 h6 with h | h
        · exact h.1
        · have := (sep_ge hs' h).1; omega
      by_cases c : s < x.1 + 1
      · exact absurd ⟨h8, c⟩ h7
      · omega
theorem pure : ∀ (a0 : Int) (a1 : Int) (l2 : List F.S66), (Lit.int .i64 a0).wf = true → (Lit.int .i64 a1).wf = true → ((∀ yy ∈ l2, ((Lit.int .i64 yy.f0).wf = true ∧ (Lit.int .i64 yy.f1).wf = true)) ∧ l2.length ≤ maxLen) → ∃ k, F.weirkeeperlaw05_SpaceFills.f k a0 a1 l2 = some true := by
  intro a b l _ _ _
  refine ⟨300, ?_⟩
  have aw : weirkeeperlaw05_SpaceFills.j0 300 a b l true = some true := by
    rw [show (300 : Nat) = 299 + 1 from rfl, weirkeeperlaw05_SpaceFills.j0, if_pos rfl, awake5 299 (by omega)]
    rfl
  unfold weirkeeperlaw05_SpaceFills.f
  by_cases c1 : (l.length : Int) > 20
  · rw [if_pos c1, aw]
  by_cases c2 : wrap64 (b - a) > 40
  · rw [if_neg c1, if_pos c2, aw]
  rw [if_neg c1, if_neg c2]
  by_cases hm : MayX a b (xs l)
  · have b3 := hm.2.1
    have b4 := hm.2.2.1
    have b5 := hm.1
    rw [wrap64_in (by omega) (by omega)] at c2
    have hs := FR_sum hm
    have h4 := sum_le (chain_may hm (sorts l))
    rw [sumX_perm (sorts l).1] at h4
    obtain ⟨n, hn⟩ : ∃ n : Nat, b - a - sumX (xs l) = n := ⟨(b - a - sumX (xs l)).toNat, by omega⟩
    rw [(right_true hm (by omega) 300 (by omega)).1, Option.bind_some, show (300 : Nat) = 299 + 1 from rfl, weirkeeperlaw05_SpaceFills.j0, if_neg (by simp), left_true hm (by omega) 299 (by omega), Option.bind_some, Option.bind_some, if_pos (by simp; omega), List.nil_append, hn,
      show (0 : Int) = ((0 : Nat) : Int) from rfl, show n = n + 0 from rfl]
    exact loop a b (by omega) n 0 299 _ l (by omega) (by omega) (by omega) hm (by omega) (fun s hc => by have := (sep_ge (FR_sep hm) hc).1; omega)
  · rw [right_false hm (by omega) 300 (by omega), Option.bind_some]
    exact aw
end Go.Proofs.Ythcohkgpbjcliaa.PlSpaceFills
