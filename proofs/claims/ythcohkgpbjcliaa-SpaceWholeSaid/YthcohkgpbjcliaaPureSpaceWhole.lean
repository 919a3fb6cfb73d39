/- What is free, and what is used, are together the whole area, each sector once; of what is free nothing touches. -/
import Derived.Test.YthcohkgpbjcliaaFlaw05SpaceWhole
import Derived.Test.YthcohkgpbjcliaaPlAwake05
namespace Go.Proofs.Ythcohkgpbjcliaa.PlSpaceWhole
open Go.RowKit Go.Proofs.Ythcohkgpbjcliaa.F Go.Proofs.YthcohkgpbjcliaaW.PrintWords Go.Proofs.YthcohkgpbjcliaaW.PrintLast Go.Proofs.YthcohkgpbjcliaaW.PrintMore Go.Proofs.Ythcohkgpbjcliaa.Pl
set_option linter.unusedVariables false
set_option linter.unusedSimpArgs false
/-- extents that are free, laid beside those that are used -/
theorem may_more {a b : Int} {l : List X} (h : MayX a b l) : ∀ (f : List X), (∀ x ∈ f, OkX a b x) → f.Pairwise Disj → (∀ x ∈ f, ∀ s, InX s x → ¬ CovX s l) → MayX a b (l ++ f) := by
  intro f h1 h2 h3
  obtain ⟨a1, a2, a3, a4, a5⟩ := h
  refine ⟨a1, a2, a3, fun y hy => ?_, List.pairwise_append.2 ⟨a5, h2, fun y hy z hz => ?_⟩⟩
  · rcases List.mem_append.1 hy with hy | hy
    · exact a4 y hy
    · exact h1 y hy
  · exact (disj_of (h1 z hz).2.1 (a4 y hy).2.1 (fun s hs hy' => h3 z hz s hs ⟨y, hy, hy'⟩)).symm
theorem fl (a b : Int) (l : List E) (hl : l.length ≤ 30) (f : List E) (hf : xs f = FR a b l) : f.length ≤ 31 := by
  have := FR_length a b l
  rw [← hf, xs_length] at this
  omega
theorem all_may (a b : Int) (l : List E) (hm : MayX a b (xs l)) (f : List E) (hf : xs f = FR a b l) : MayX a b (xs (l ++ f)) := by
  have hc := chain_may hm (sorts l)
  have hs := free_sep hc
  rw [xs_append, hf]
  refine may_more hm _ hs.1 (hs.2.imp (fun h => .inl (by omega))) fun x hx s hi => ?_
  have := (free_in hm (sorts l) s).1 ⟨x, hx, hi⟩
  exact this.2.2
theorem sum_f (a b : Int) (l : List E) (hm : MayX a b (xs l)) (f : List E) (hf : xs f = FR a b l) : sumX (xs f) = b - a - sumX (xs l) := by
  have := free_sum (chain_may hm (sorts l))
  rw [sumX_perm (sorts l).1] at this
  rw [hf]
  exact this
theorem loop1 (a b : Int) (l : List E) (hm : MayX a b (xs l)) (hl : l.length ≤ 30) (f : List E) (hf : xs f = FR a b l) : ∀ (d i k : Nat), i + d = f.length → d + 90 < k → weirkeeperlaw05_SpaceWhole.l1 k a b l f (l ++ f) (sumX (xs l)) (f.length : Int) (i : Int) = some true
  | 0, i, k, hi, hk => by
    obtain ⟨k, rfl⟩ : ∃ j, k = j + 1 := ⟨k - 1, by omega⟩
    have h1 := all_may a b l hm f hf
    have h2 := fl a b l hl f hf
    have h3 := sum_f a b l hm f hf
    have h4 := sum_le (chain_may hm (sorts l))
    rw [sumX_perm (sorts l).1] at h4
    have b4 := hm.2.2.1
    have b5 := hm.1
    rw [weirkeeperlaw05_SpaceWhole.l1, if_neg (by omega), (right_true h1 (by simp; omega) k (by simp; omega)).1, Option.bind_some, if_pos rfl, left_true h1 (by simp; omega) k (by simp; omega), Option.bind_some,
      xs_append, sumX_append, h3, if_pos (by omega), left_true hm (by omega) k (by omega), Option.bind_some, wrap64_in (n := b - a) (by omega) (by omega), wrap64_in (by omega) (by omega), if_pos rfl, awake5 k (by omega)]
    rfl
  | d + 1, i, k, hi, hk => by
    obtain ⟨k, rfl⟩ : ∃ j, k = j + 1 := ⟨k - 1, by omega⟩
    have hlt : i < f.length := by omega
    have h2 := fl a b l hl f hf
    have ih := loop1 a b l hm hl f hf d (i + 1) k (by omega) (by omega)
    rw [weirkeeperlaw05_SpaceWhole.l1, if_pos (by omega), wrap64_in (n := (i : Int) + 1) (by omega) (by omega), show ((i : Int) + 1) = ((i + 1 : Nat) : Int) by omega]
    by_cases c : (i : Int) > 0
    · rw [if_pos c, wrap64_in (n := (i : Int) - 1) (by omega) (by omega), show ((i : Int) - 1) = ((i - 1 : Nat) : Int) by omega, if_pos (by omega), if_pos (by omega), if_pos (by omega), if_pos (by omega), rdX_at _ _ hlt, rdX_at _ _ (show i - 1 < f.length by omega)]
      have hs := free_sep (chain_may hm (sorts l))
      rw [show freeL a (xs (sortE l)) b = xs f from hf.symm] at hs
      have hp := hs.2
      unfold xs at hp
      rw [List.pairwise_map, List.pairwise_iff_getElem] at hp
      have h3 := hp (i - 1) i (by omega) hlt (by omega)
      have h4 := hs.1 (f[i - 1].f0, f[i - 1].f1) (List.mem_map_of_mem (List.getElem_mem _))
      obtain ⟨q1, q2, q3⟩ := h4
      simp only at q1 q2 q3 h3
      have b4 := hm.2.2.1
      have b5 := hm.1
      rw [wrap64_in (by omega) (by omega), if_neg (by omega)]
      exact ih
    · rw [if_neg c]
      exact ih
theorem loop0 (a b : Int) (l : List E) (hm : MayX a b (xs l)) (hl : l.length ≤ 30) (f : List E) (hf : xs f = FR a b l) : ∀ (d i k : Nat) (n : Int), i + d = l.length → d + 130 < k → 0 ≤ n → n + sumX (xs (l.drop i)) = sumX (xs l) → weirkeeperlaw05_SpaceWhole.l0 k a b l f (l ++ f) n l (l.length : Int) (i : Int) = some true
  | 0, i, k, n, hi, hk, h0, he => by
    obtain ⟨k, rfl⟩ : ∃ j, k = j + 1 := ⟨k - 1, by omega⟩
    have h2 := fl a b l hl f hf
    rw [List.drop_of_length_le (by omega)] at he
    have he : n = sumX (xs l) := by rw [← he]; simp [xs, sumX]
    rw [weirkeeperlaw05_SpaceWhole.l0, if_neg (by omega), he, show (0 : Int) = ((0 : Nat) : Int) from rfl]
    exact loop1 a b l hm hl f hf f.length 0 k (by omega) (by omega)
  | d + 1, i, k, n, hi, hk, h0, he => by
    obtain ⟨k, rfl⟩ : ∃ j, k = j + 1 := ⟨k - 1, by omega⟩
    have hlt : i < l.length := by omega
    rw [List.drop_eq_getElem_cons hlt] at he
    have e : sumX (xs (l[i] :: l.drop (i + 1))) = l[i].f1 + sumX (xs (l.drop (i + 1))) := rfl
    rw [e] at he
    have h4 := sum_le (chain_may hm (sorts l))
    rw [sumX_perm (sorts l).1] at h4
    have b4 := hm.2.2.1
    have b5 := hm.1
    have b2 : 0 ≤ sumX (xs (l.drop (i + 1))) := sum_nonneg _ (fun x hx => by
      obtain ⟨y, hy, rfl⟩ := List.mem_map.1 hx
      have := (hm.2.2.2.1 (y.f0, y.f1) (List.mem_map_of_mem (List.mem_of_mem_drop hy))).2.1
      simp only at this ⊢
      omega)
    have b1 := (hm.2.2.2.1 (l[i].f0, l[i].f1) (List.mem_map_of_mem (List.getElem_mem hlt))).2.1
    simp only at b1
    rw [weirkeeperlaw05_SpaceWhole.l0, if_pos (by omega), if_pos (by omega), if_pos (by omega), rdX_at _ _ hlt, wrap64_in (by omega) (by omega), wrap64_in (by omega) (by omega), show ((i : Int) + 1) = ((i + 1 : Nat) : Int) by omega]
    exact loop0 a b l hm hl f hf d (i + 1) k _ (by omega) (by omega) (by omega) (by omega)
theorem pure : ∀ (a0 : Int) (a1 : Int) (l2 : List F.S66), (Lit.int .i64 a0).wf = true → (Lit.int .i64 a1).wf = true → ((∀ yy ∈ l2, ((Lit.int .i64 yy.f0).wf = true ∧ (Lit.int .i64 yy.f1).wf = true)) ∧ l2.length ≤ maxLen) → ∃ k, F.weirkeeperlaw05_SpaceWhole.f k a0 a1 l2 = some true := by
  intro a b l _ _ _
  refine ⟨300, ?_⟩
  unfold weirkeeperlaw05_SpaceWhole.f
  by_cases c1 : (l.length : Int) > 30
  · rw [if_pos c1, show (300 : Nat) = 299 + 1 from rfl, weirkeeperlaw05_SpaceWhole.j0, if_pos rfl, if_pos c1, awake5 299 (by omega)]
    rfl
  rw [if_neg c1]
  by_cases hm : MayX a b (xs l)
  · rw [(right_true hm (by omega) 300 (by omega)).1, Option.bind_some]
    obtain ⟨f, e1, e2⟩ := free_true hm (by omega) 299 (by omega)
    have h2 := fl a b l (by omega) f e2
    rw [show (300 : Nat) = 299 + 1 from rfl, weirkeeperlaw05_SpaceWhole.j0, if_neg (by simp), e1, Option.bind_some, Option.bind_some, if_pos (by simp; omega), Option.bind_some, List.nil_append, if_pos (by omega), show (0 : Int) = ((0 : Nat) : Int) from rfl]
    exact loop0 a b l hm (by omega) f e2 l.length 0 299 _ (by omega) (by omega) (by decide) (by simp)
  · rw [right_false hm (by omega) 300 (by omega), Option.bind_some, show (300 : Nat) = 299 + 1 from rfl, weirkeeperlaw05_SpaceWhole.j0, if_pos (by rfl), if_neg c1, free_false hm (by omega) 299 (by omega), Option.bind_some, if_pos (by rfl), awake5 299 (by omega)]
    rfl
end Go.Proofs.Ythcohkgpbjcliaa.PlSpaceWhole
