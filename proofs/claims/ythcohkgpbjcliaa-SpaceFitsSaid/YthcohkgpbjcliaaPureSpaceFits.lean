/- What fits may be used, too, and there is as much less; it lies as far ahead as it can. -/
import Derived.Test.YthcohkgpbjcliaaFlaw05SpaceFits
import Derived.Test.YthcohkgpbjcliaaPlAwake05
namespace Go.Proofs.Ythcohkgpbjcliaa.PlSpaceFits
open Go.RowKit Go.Proofs.Ythcohkgpbjcliaa.F Go.Proofs.YthcohkgpbjcliaaW.PrintWords Go.Proofs.YthcohkgpbjcliaaW.PrintLast Go.Proofs.YthcohkgpbjcliaaW.PrintMore Go.Proofs.Ythcohkgpbjcliaa.Pl
set_option linter.unusedVariables false
set_option linter.unusedSimpArgs false
theorem before_l0 (l : List E) (at_ : Int) (hn : l.length ≤ 1000) : ∀ (d i k : Nat) (out : List E), i + d = l.length → d < k → out.length ≤ i → weirkeeperlaw05_before.l0 k at_ out l (l.length : Int) (i : Int) = some (out ++ (l.drop i).filter (fun x => decide (x.f0 < at_)))
  | 0, i, k, out, hi, hk, ho => by
    obtain ⟨k, rfl⟩ : ∃ m, k = m + 1 := ⟨k - 1, by omega⟩
    rw [weirkeeperlaw05_before.l0, if_neg (by omega), List.drop_of_length_le (by omega)]
    simp
  | d + 1, i, k, out, hi, hk, ho => by
    obtain ⟨k, rfl⟩ : ∃ m, k = m + 1 := ⟨k - 1, by omega⟩
    have hlt : i < l.length := by omega
    rw [weirkeeperlaw05_before.l0, if_pos (by omega), if_pos (by omega), if_pos (by omega), rdX_at _ _ hlt, wrap64_in (by omega) (by omega), show ((i : Int) + 1) = ((i + 1 : Nat) : Int) by omega, List.drop_eq_getElem_cons hlt]
    by_cases c : l[i].f0 < at_
    · rw [if_pos c, if_pos (by omega), before_l0 l at_ hn d (i + 1) k _ (by omega) (by omega) (by simp; omega), List.filter_cons_of_pos (by simpa using c), List.append_assoc]
      rfl
    · rw [if_neg c, before_l0 l at_ hn d (i + 1) k _ (by omega) (by omega) (by omega), List.filter_cons_of_neg (by simpa using c)]
def ahead (l : List E) (at_ : Int) : List E := l.filter (fun x => decide (x.f0 < at_))
theorem ahead_length (l : List E) (at_ : Int) : (ahead l at_).length ≤ l.length := List.length_filter_le _ _
theorem before_eq (l : List E) (at_ : Int) (hn : l.length ≤ 1000) (k : Nat) (hk : l.length < k) : weirkeeperlaw05_before.f k l at_ = some (ahead l at_) := by
  have := before_l0 l at_ hn l.length 0 k [] (by omega) hk (by simp)
  rw [List.drop_zero, List.nil_append] at this
  exact this
/-- nothing of that size lies further ahead -/
theorem none_ahead {a b n : Int} {l : List E} (hm : MayX a b (xs l)) (hn : 1 ≤ n) {x y : X} (hx : (FR a b l).find? (fun x => decide (n ≤ x.2)) = some x)
    (hm' : MayX a (x.1 + n - 1) (xs (ahead l x.1))) (hy : (FR a (x.1 + n - 1) (ahead l x.1)).find? (fun x => decide (n ≤ x.2)) = some y) : False := by
  have hs := free_sep (chain_may hm (sorts l))
  have hs' := free_sep (chain_may hm' (sorts _))
  have hin := free_in hm (sorts l)
  have hin' := free_in hm' (sorts _)
  have y1 := List.mem_of_find?_eq_some hy
  have y2 := List.find?_some hy
  simp only [decide_eq_true_eq] at y2
  have x1 := List.mem_of_find?_eq_some hx
  have x2 := List.find?_some hx
  simp only [decide_eq_true_eq] at x2
  obtain ⟨p1, p2, p3⟩ := hs'.1 y y1
  obtain ⟨q1, q2, q3⟩ := hs.1 x x1
  obtain ⟨g, hg, g1, g2⟩ := sep_run hs hn (q := y.1) (fun s s1 s2 => (hin s).2 ⟨by omega, by omega, fun hc => by
    obtain ⟨z, hz, zi⟩ := hc
    obtain ⟨w, hw, rfl⟩ := List.mem_map.1 hz
    have hfree := ((hin' s).1 ⟨y, y1, s1, by omega⟩).2.2
    by_cases c : w.f0 < x.1
    · exact hfree ⟨(w.f0, w.f1), List.mem_map_of_mem (List.mem_filter.2 ⟨hw, by simpa using c⟩), zi⟩
    · have hok := hm.2.2.2.1 (w.f0, w.f1) hz
      have w1 := hok.2.1
      have zi1 := zi.1
      simp only at w1 zi1
      exact ((hin w.f0).1 ⟨x, x1, by omega, by omega⟩).2.2 ⟨(w.f0, w.f1), hz, by simp, by simp only; omega⟩⟩)
  have := find_first hs hx hg (by omega)
  omega
theorem pure : ∀ (a0 : Int) (a1 : Int) (a2 : Int) (l3 : List F.S66), (Lit.int .i64 a0).wf = true → (Lit.int .i64 a1).wf = true → (Lit.int .i64 a2).wf = true → ((∀ yy ∈ l3, ((Lit.int .i64 yy.f0).wf = true ∧ (Lit.int .i64 yy.f1).wf = true)) ∧ l3.length ≤ maxLen) → ∃ k, F.weirkeeperlaw05_SpaceFits.f k a0 a1 a2 l3 = some true := by
  intro n a b l _ _ _ _
  refine ⟨300, ?_⟩
  unfold weirkeeperlaw05_SpaceFits.f
  by_cases c1 : (l.length : Int) > 30
  · rw [if_pos c1, awake5 300 (by omega)]; rfl
  rw [if_neg c1]
  have aw := awake5 300 (by omega)
  by_cases hm : MayX a b (xs l)
  · have hR := (right_true hm (by omega) 300 (by omega)).1
    by_cases hN : 1 ≤ n ∧ n ≤ 2147483647
    · rw [fit_good hm hN.1 hN.2 (by omega) 300 (by omega), Option.bind_some]
      cases hx : (FR a b l).find? (fun x => decide (n ≤ x.2)) with
      | none =>
        dsimp only
        rw [if_neg (by decide), if_pos (by decide), hR, Option.bind_some, if_pos rfl, if_pos hN.1, decide_eq_true hN.2, if_pos (by decide), aw]
        rfl
      | some x =>
        dsimp only
        have x1 := List.mem_of_find?_eq_some hx
        have x2 := List.find?_some hx
        simp only [decide_eq_true_eq] at x2
        have hs := free_sep (chain_may hm (sorts l))
        obtain ⟨q1, q2, q3⟩ := hs.1 x x1
        have b4 := hm.2.2.1
        have b5 := hm.1
        have e : xs (l ++ [(⟨x.1, n⟩ : E)]) = xs l ++ [(x.1, n)] := xs_append _ _
        have hm2 : MayX a b (xs (l ++ [(⟨x.1, n⟩ : E)])) := by
          rw [e]
          refine may_add hm ⟨q1, hN.1, by simp only; omega⟩ fun s hi => ?_
          have i1 := hi.1
          have i2 := hi.2
          simp only at i1 i2
          exact ((free_in hm (sorts l) s).1 ⟨x, x1, i1, by omega⟩).2.2
        rw [if_pos rfl, Option.bind_some, if_pos (by simp; omega), Option.bind_some, List.nil_append, Option.bind_some, if_pos (by simp; omega), Option.bind_some, (right_true hm2 (by simp; omega) 300 (by simp; omega)).1, Option.bind_some, if_pos rfl, if_pos rfl,
          left_true hm2 (by simp; omega) 300 (by simp; omega), Option.bind_some, left_true hm (by omega) 300 (by omega), Option.bind_some]
        have hsum := sum_le (chain_may hm (sorts l))
        rw [sumX_perm (sorts l).1] at hsum
        have hcond : ((b - a - sumX (xs (l ++ [(⟨x.1, n⟩ : E)]))) != (wrap64 ((b - a - sumX (xs l)) - n))) = false := by
          rw [e, sumX_append, wrap64_in (by omega) (by omega), bne_eq_false_iff_eq]
          simp only [sumX]
          omega
        rw [hcond, show (300 : Nat) = 299 + 1 from rfl, weirkeeperlaw05_SpaceFits.j0, if_neg (by simp), before_eq l x.1 (by omega) 299 (by omega), Option.bind_some, wrap64_in (n := x.1 + n) (by omega) (by omega), wrap64_in (by omega) (by omega)]
        have hlf : (ahead l x.1).length ≤ l.length := ahead_length _ _
        have aw' := awake5 299 (by omega)
        have hfit : ∃ r : Int × Int × Int, space_Fit.f 299 n a (x.1 + n - 1) (ahead l x.1) = some r ∧ ¬ r.2.2 = 0 := by
          by_cases hm' : MayX a (x.1 + n - 1) (xs (ahead l x.1))
          · refine ⟨_, fit_good hm' hN.1 hN.2 (by omega) 299 (by omega), ?_⟩
            cases hy : (FR a (x.1 + n - 1) (ahead l x.1)).find? (fun x => decide (n ≤ x.2)) with
            | none => simp
            | some y => exact (none_ahead hm hN.1 hx hm' hy).elim
          · exact ⟨_, fit_bad (.inl hm') (by omega) 299 (by omega), by simp⟩
        obtain ⟨r, r1, r2⟩ := hfit
        rw [r1, Option.bind_some, aw', if_neg r2]
        split <;> rfl
    · rw [fit_bad (by omega) (by omega) 300 (by omega), Option.bind_some]
      dsimp only
      rw [if_neg (by decide), if_pos (by decide), hR, Option.bind_some, if_pos rfl]
      by_cases c : n ≥ 1
      · rw [if_pos c, decide_eq_false (by omega), if_pos (by decide), aw]
        rfl
      · rw [if_neg c, if_pos (by decide), aw]
        rfl
  · rw [fit_bad (.inl hm) (by omega) 300 (by omega), Option.bind_some]
    dsimp only
    rw [if_neg (by decide), if_pos (by decide), right_false hm (by omega) 300 (by omega), Option.bind_some, if_neg (by simp), if_pos (by decide), aw]
    rfl
end Go.Proofs.Ythcohkgpbjcliaa.PlSpaceFits
