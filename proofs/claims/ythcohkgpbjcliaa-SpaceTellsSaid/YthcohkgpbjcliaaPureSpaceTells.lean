/- Whether any extents may be used, what is free beside them, and where any number fits, or that it is refused: as the document says. -/
import Derived.Test.YthcohkgpbjcliaaFlaw05SpaceTells
import Derived.Test.YthcohkgpbjcliaaPlSpaceR
namespace Go.Proofs.Ythcohkgpbjcliaa.PlSpaceTells
open Go.RowKit Go.Proofs.Ythcohkgpbjcliaa.F Go.Proofs.YthcohkgpbjcliaaW.PrintWords Go.Proofs.YthcohkgpbjcliaaW.PrintLast Go.Proofs.YthcohkgpbjcliaaW.PrintMore Go.Proofs.Ythcohkgpbjcliaa.Pl
set_option linter.unusedVariables false
set_option linter.unusedSimpArgs false
theorem small_eq (a b : Int) (l : List E) (h : weirkeeperlaw05_small.f a b l = some true) : l.length ≤ 30 ∧ (a < 0 ∨ b < a ∨ b > 2147483647 ∨ b - a ≤ 100) := by
  unfold weirkeeperlaw05_small.f at h
  by_cases c0 : (l.length : Int) ≤ 30
  · rw [if_pos c0] at h
    refine ⟨by omega, ?_⟩
    by_cases c1 : a < 0
    · exact .inl c1
    by_cases c2 : b < a
    · exact .inr (.inl c2)
    by_cases c3 : b > 2147483647
    · exact .inr (.inr (.inl c3))
    rw [if_neg c1, if_neg c2, if_neg c3, wrap64_in (by omega) (by omega)] at h
    simp at h
    exact .inr (.inr (.inr (by omega)))
  · rw [if_neg c0] at h
    simp at h
theorem small_some (a b : Int) (l : List E) : ∃ r, weirkeeperlaw05_small.f a b l = some r := by
  unfold weirkeeperlaw05_small.f
  repeat' split
  all_goals exact ⟨_, rfl⟩
/-- the sum of what the document says is free, and then all is compared -/
theorem loop (a b : Int) (l : List E) (o : List E) (g : List RE) (e x0 x1 : Int) (S : Int) (hg : g = o.map toR) (hn : l.length ≤ 30) (hol : o.length ≤ 31) (hS : ∀ k, 40 < k → space_Left.f k a b l = some S) (hpos : ∀ x ∈ g, 0 ≤ x.f1) (hb : sumX (ys g) ≤ 2147483647) (hsum : sumX (ys g) = S)
    (hR : ∀ k, 3110 < k → ∃ r, space_Right.f k a b l = some r ∧ weirkeeperref05_Right.f k a b (l.map toR) = some r) : ∀ (d i k : Nat) (n : Int), i + d = g.length → d + 3200 < k → 0 ≤ n → n + sumX (ys (g.drop i)) = S →
    weirkeeperlaw05_SpaceTells.l0 k a b l o e g e n g (g.length : Int) (i : Int) x0 x1 x0 x1 = some true
  | 0, i, k, n, hi, hk, h0, he => by
    obtain ⟨k, rfl⟩ : ∃ m, k = m + 1 := ⟨k - 1, by omega⟩
    rw [List.drop_of_length_le (by omega)] at he
    have he : n = S := by rw [← he]; simp [ys, sumX]
    obtain ⟨r, r1, r2⟩ := hR k (by omega)
    rw [weirkeeperlaw05_SpaceTells.l0, if_neg (by omega), r1, Option.bind_some, refs_eq l (by omega) k (by omega), Option.bind_some, r2, Option.bind_some, if_pos (by simp), refs_eq o (by omega) k (by omega), Option.bind_some, hg, sameE_refl _ (by simp; omega) k (by simp; omega), Option.bind_some, if_pos rfl, if_pos (by simp), if_pos rfl, hS k (by omega), Option.bind_some, if_pos he.symm, awake5 k (by omega)]
    rfl
  | d + 1, i, k, n, hi, hk, h0, he => by
    obtain ⟨k, rfl⟩ : ∃ m, k = m + 1 := ⟨k - 1, by omega⟩
    have hlt : i < g.length := by omega
    have hgl : g.length ≤ 31 := by rw [hg]; simpa using hol
    rw [List.drop_eq_getElem_cons hlt] at he
    have e' : sumX (ys (g[i] :: g.drop (i + 1))) = g[i].f1 + sumX (ys (g.drop (i + 1))) := rfl
    rw [e'] at he
    have b1 := hpos g[i] (List.getElem_mem hlt)
    have b2 : 0 ≤ sumX (ys (g.drop (i + 1))) := sum_nonneg _ (fun x hx => by
      obtain ⟨y, hy, rfl⟩ := List.mem_map.1 hx
      exact hpos y (List.mem_of_mem_drop hy))
    rw [weirkeeperlaw05_SpaceTells.l0, if_pos (by omega), if_pos (by omega), if_pos (by omega), rdY_at _ _ hlt, wrap64_in (by omega) (by omega), wrap64_in (by omega) (by omega), show ((i : Int) + 1) = ((i + 1 : Nat) : Int) by omega]
    exact loop a b l o g e x0 x1 S hg hn hol hS hpos hb hsum hR d (i + 1) k _ (by omega) (by omega) (by omega) (by omega)
theorem pure : ∀ (a0 : Int) (a1 : Int) (a2 : Int) (l3 : List F.S66), (Lit.int .i64 a0).wf = true → (Lit.int .i64 a1).wf = true → (Lit.int .i64 a2).wf = true → ((∀ yy ∈ l3, ((Lit.int .i64 yy.f0).wf = true ∧ (Lit.int .i64 yy.f1).wf = true)) ∧ l3.length ≤ maxLen) → ∃ k, F.weirkeeperlaw05_SpaceTells.f k a0 a1 a2 l3 = some true := by
  intro n a b l _ _ _ _
  refine ⟨4000, ?_⟩
  unfold weirkeeperlaw05_SpaceTells.f
  obtain ⟨r, hr⟩ := small_some a b l
  rw [hr, Option.bind_some]
  cases r with
  | false => rw [if_neg (by simp), awake5 4000 (by omega)]; rfl
  | true =>
    obtain ⟨hn, hs⟩ := small_eq a b l hr
    rw [if_pos rfl, refs_eq l (by omega) 4000 (by omega)]
    by_cases hm : MayX a b (xs l)
    · have b3 := hm.2.1
      have b4 := hm.2.2.1
      have b5 := hm.1
      obtain ⟨o, e1, e2⟩ := free_true hm (by omega) 4000 (by omega)
      obtain ⟨g, g1, g2⟩ := refFree_eq hm (by omega) hn 4000 (by omega)
      have hg : g = o.map toR := ys_inj (by rw [g2, ys_toR, e2])
      have hol : o.length ≤ l.length + 1 := by rw [← xs_length, e2]; exact FR_length _ _ _
      have hsep := free_sep (chain_may hm (sorts l))
      have hsum := free_sum (chain_may hm (sorts l))
      rw [sumX_perm (sorts l).1] at hsum
      have h4 := sum_le (chain_may hm (sorts l))
      rw [sumX_perm (sorts l).1] at h4
      have hgs : sumX (ys g) = b - a - sumX (xs l) := by rw [g2]; exact hsum
      have hpos : ∀ x ∈ g, 0 ≤ x.f1 := fun x hx => by
        have : (x.f0, x.f1) ∈ FR a b l := by rw [← g2]; exact List.mem_map_of_mem hx
        have := (hsep.1 _ this).2.1
        simp only at this
        omega
      have hR : ∀ k, 3110 < k → ∃ r, space_Right.f k a b l = some r ∧ weirkeeperref05_Right.f k a b (l.map toR) = some r := fun k hk => by
        refine ⟨true, (right_true hm (by omega) k (by omega)).1, ?_⟩
        rcases refRight_eq a b (l.map toR) (by simpa using hn) k (by omega) with ⟨h1, _⟩ | ⟨_, h2⟩
        · exact h1
        · rw [ys_toR] at h2; exact absurd hm h2
      have fin : ∀ (e x0 x1 : Int), weirkeeperlaw05_SpaceTells.l0 4000 a b l o e g e 0 g (g.length : Int) 0 x0 x1 x0 x1 = some true := fun e x0 x1 =>
        loop a b l o g e x0 x1 _ hg hn (by omega) (fun k hk => left_true hm (by omega) k (by omega)) hpos (by omega) hgs hR g.length 0 4000 0 (by omega) (by rw [hg]; simp; omega) (by decide) (by rw [List.drop_zero, hgs]; omega)
      rw [e1, Option.bind_some]
      by_cases hN : 1 ≤ n ∧ n ≤ 2147483647
      · rw [fit_good hm hN.1 hN.2 (by omega) 4000 (by omega), Option.bind_some, Option.bind_some, g1, Option.bind_some, Option.bind_some, refFit_good hm (by omega) hN.1 hN.2 hn 4000 (by omega), Option.bind_some]
        exact fin _ _ _
      · have hbad : ¬ MayX a b (xs l) ∨ n < 1 ∨ 2147483647 < n := by omega
        rw [fit_bad hbad (by omega) 4000 (by omega), Option.bind_some, Option.bind_some, g1, Option.bind_some, Option.bind_some, refFit_bad hbad hn 4000 (by omega), Option.bind_some]
        exact fin _ _ _
    · rw [free_false hm (by omega) 4000 (by omega), Option.bind_some, fit_bad (.inl hm) (by omega) 4000 (by omega), Option.bind_some, Option.bind_some, refFree_bad hm hn 4000 (by omega), Option.bind_some, Option.bind_some, refFit_bad (.inl hm) hn 4000 (by omega), Option.bind_some]
      refine loop a b l [] [] 1 0 0 0 rfl hn (by simp) (fun k hk => left_false hm (by omega) k (by omega)) (fun x hx => by cases hx) (by decide) rfl (fun k hk => ⟨false, right_false hm (by omega) k (by omega), ?_⟩) 0 0 4000 0 rfl (by decide) (by decide) rfl
      rcases refRight_eq a b (l.map toR) (by simpa using hn) k (by omega) with ⟨_, h2⟩ | ⟨h1, _⟩
      · rw [ys_toR] at h2; exact absurd h2 hm
      · exact h1
end Go.Proofs.Ythcohkgpbjcliaa.PlSpaceTells
