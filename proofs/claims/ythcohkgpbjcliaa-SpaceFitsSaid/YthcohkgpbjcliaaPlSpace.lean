/- What the functions of package space come to, in plain words. -/
import Derived.Test.YthcohkgpbjcliaaFspacex0
import Derived.Test.YthcohkgpbjcliaaFspacex1
import Derived.Test.YthcohkgpbjcliaaSpaceSpec
namespace Go.Proofs.Ythcohkgpbjcliaa.Pl
open Go.RowKit Go.Proofs.Ythcohkgpbjcliaa.F Go.Proofs.YthcohkgpbjcliaaW.PrintWords Go.Proofs.YthcohkgpbjcliaaW.PrintLast Go.Proofs.YthcohkgpbjcliaaW.PrintMore
set_option linter.unusedVariables false
set_option linter.unusedSimpArgs false
abbrev E := F.S66
def xs (l : List E) : List X := l.map fun x => (x.f0, x.f1)
theorem xs_append (l m : List E) : xs (l ++ m) = xs l ++ xs m := List.map_append
theorem xs_length (l : List E) : (xs l).length = l.length := List.length_map _
theorem rdX_at (l : List E) (i : Nat) (h : i < l.length) : rd_T66 l (i : Int) = l[i] := by
  show l.getD (i : Int).toNat _ = _
  rw [Int.toNat_natCast, List.getD_eq_getElem?_getD, List.getElem?_eq_getElem h]
  rfl
theorem sort_perm (l : List E) : (sortE l).Perm l := by
  have h := (sortE_perm l).1.2.2
  have e : (sortE l).toArray.extract 0 l.length = (sortE l).toArray := by
    have := sortE_length l
    rw [← this]
    simp
  rw [e] at h
  simpa using h
theorem sort_sorted (l : List E) : (sortE l).Pairwise (fun x y => x.f0 ≤ y.f0) := by
  rw [List.pairwise_iff_getElem]
  intro i j hi hj hij
  have h := (sortE_perm l).2 i j (Nat.zero_le _) hij (by rw [← sortE_length l]; exact hj)
  rw [ltE, getElem!_pos _ _ (by simpa using hj), getElem!_pos _ _ (by simpa using hi)] at h
  simp at h
  exact h
theorem sorts (l : List E) : Sorts (xs l) (xs (sortE l)) := by
  refine ⟨(sort_perm l).map _, ?_⟩
  unfold xs
  rw [List.pairwise_map]
  exact sort_sorted l
theorem sort_one (x : E) : sortE [x] = [x] := List.perm_singleton.1 (sort_perm [x])
/-- what is free -/
def FR (a b : Int) (l : List E) : List X := freeL a (xs (sortE l)) b
theorem gaps_l0 (L : List E) (hL : ∀ x ∈ L, 0 ≤ x.f0 ∧ 0 ≤ x.f1 ∧ x.f0 + x.f1 ≤ 2147483647) (hn : L.length ≤ 1000) : ∀ (d i k : Nat) (p : Int) (out : List E), i + d = L.length → d < k → 0 ≤ p → p ≤ 2147483647 → out.length ≤ i →
    ∃ o, space_gaps.l0 k p out L (L.length : Int) (i : Int) = some o ∧ (xs o.1, o.2) = gapsL p (xs out) (xs (L.drop i))
  | 0, i, k, p, out, hi, hk, h0, h1, ho => by
    obtain ⟨k, rfl⟩ : ∃ m, k = m + 1 := ⟨k - 1, by omega⟩
    refine ⟨(out, true), ?_, ?_⟩
    · rw [space_gaps.l0, if_neg (by omega)]
    · rw [List.drop_of_length_le (by omega)]
      rfl
  | d + 1, i, k, p, out, hi, hk, h0, h1, ho => by
    obtain ⟨k, rfl⟩ : ∃ m, k = m + 1 := ⟨k - 1, by omega⟩
    have hlt : i < L.length := by omega
    obtain ⟨b0, b1, b2⟩ := hL L[i] (List.getElem_mem hlt)
    rw [space_gaps.l0, if_pos (by omega), if_pos (by omega), if_pos (by omega), rdX_at _ _ hlt, List.drop_eq_getElem_cons hlt]
    show ∃ o, _ ∧ _ = gapsL p (xs out) ((L[i].f0, L[i].f1) :: xs (L.drop (i + 1)))
    by_cases c : L[i].f0 < p
    · rw [if_pos c]
      refine ⟨_, rfl, ?_⟩
      rw [gapsL, if_pos c]
      rfl
    · rw [if_neg c, gapsL, if_neg c]
      have ee : space_Extent_end.f L[i].f0 L[i].f1 = some (L[i].f0 + L[i].f1) := by
        unfold space_Extent_end.f
        rw [wrap64_in (by omega) (by omega)]
      by_cases c2 : L[i].f0 > p
      · rw [if_pos c2, if_pos (by omega), ee, Option.bind_some, if_pos (by simpa using c2), wrap64_in (by omega) (by omega), wrap64_in (by omega) (by omega), show ((i : Int) + 1) = ((i + 1 : Nat) : Int) by omega]
        obtain ⟨o, e1, e2⟩ := gaps_l0 L hL hn d (i + 1) k (L[i].f0 + L[i].f1) (out ++ [⟨p, L[i].f0 - p⟩]) (by omega) (by omega) (by omega) (by omega) (by simp; omega)
        refine ⟨o, e1, ?_⟩
        rw [e2, xs_append]
        rfl
      · rw [if_neg c2, ee, Option.bind_some, if_neg (by simpa using c2), wrap64_in (by omega) (by omega), show ((i : Int) + 1) = ((i + 1 : Nat) : Int) by omega]
        obtain ⟨o, e1, e2⟩ := gaps_l0 L hL hn d (i + 1) k (L[i].f0 + L[i].f1) out (by omega) (by omega) (by omega) (by omega) (by omega)
        exact ⟨o, e1, e2⟩
theorem gaps_f (a b : Int) (l : List E) (hn : l.length ≤ 200) (h : ∀ x ∈ l, 0 ≤ x.f0 ∧ 0 ≤ x.f1 ∧ x.f0 + x.f1 ≤ 2147483647) (ha : 0 ≤ a) (ha2 : a ≤ 2147483647) (hb : 0 ≤ b) (hb2 : b ≤ 2147483647) (k : Nat) (hk : l.length + 1 < k) :
    ∃ o, space_gaps.f k a b l = some o ∧ (xs o.1, o.2) = gapsL a [] (xs (sortE l) ++ [(b, 0)]) := by
  have hl := sortE_length l
  unfold space_gaps.f space_sorted.f
  rw [if_pos (by omega), Option.bind_some, if_pos (by omega), Option.bind_some]
  obtain ⟨o, e1, e2⟩ := gaps_l0 (sortE l ++ [⟨b, 0⟩]) (fun x hx => by
    rcases List.mem_append.1 hx with hx | hx
    · exact h x ((sort_perm l).mem_iff.1 hx)
    · rw [List.mem_singleton.1 hx]
      exact ⟨hb, by simp, by simpa using hb2⟩) (by simp; omega) (l.length + 1) 0 k a [] (by simp; omega) hk ha ha2 (by simp)
  refine ⟨o, ?_, ?_⟩
  · exact e1
  · rw [e2, List.drop_zero, xs_append]
    rfl
theorem rBad_iff {a b : Int} (ha : 0 ≤ a) (hab : a ≤ b) (x : E) : rBad a b x = false ↔ OkX a b (x.f0, x.f1) := by
  unfold rBad OkX
  simp only [Bool.or_eq_false_iff, decide_eq_false_iff_not]
  omega
theorem right_true {a b : Int} {l : List E} (h : MayX a b (xs l)) (hn : l.length ≤ 200) (k : Nat) (hk : l.length + 1 < k) : space_Right.f k a b l = some true ∧ ∃ o, space_gaps.f k a b l = some (o, true) ∧ xs o = FR a b l := by
  obtain ⟨h1, h2, h3, h4, h5⟩ := h
  have hok : ∀ x ∈ l, OkX a b (x.f0, x.f1) := fun x hx => h4 _ (List.mem_map_of_mem hx)
  obtain ⟨o, e1, e2⟩ := gaps_f a b l hn (fun x hx => by have := hok x hx; exact ⟨by have := this.1; omega, by have := this.2.1; omega, by have := this.2.2; omega⟩) h1 (by omega) (by omega) h3 k hk
  rw [gaps_chain (chain_may ⟨h1, h2, h3, h4, h5⟩ (sorts l)), List.nil_append] at e2
  obtain ⟨o1, o2⟩ := o
  obtain ⟨f1, f2⟩ := Prod.mk.inj e2
  obtain rfl : o2 = true := f2
  refine ⟨?_, o1, e1, f1⟩
  have hb : l.any (rBad a b) = false := List.any_eq_false.2 fun x hx => by rw [(rBad_iff h1 h2 x).2 (hok x hx)]; simp
  unfold space_Right.f
  rw [if_neg (by omega), if_neg (by omega), if_neg (by omega), hb, if_neg (by simp), e1, Option.bind_some]
theorem right_false {a b : Int} {l : List E} (h : ¬ MayX a b (xs l)) (hn : l.length ≤ 200) (k : Nat) (hk : l.length + 1 < k) : space_Right.f k a b l = some false := by
  unfold space_Right.f
  by_cases c1 : a < 0
  · rw [if_pos c1]
  by_cases c2 : 2147483647 < b
  · rw [if_neg c1, if_pos c2]
  by_cases c3 : b < a
  · rw [if_neg c1, if_neg c2, if_pos c3]
  rw [if_neg c1, if_neg c2, if_neg c3]
  by_cases c4 : l.any (rBad a b) = true
  · rw [if_pos c4]
  rw [if_neg c4]
  have hok : ∀ x ∈ l, OkX a b (x.f0, x.f1) := fun x hx => (rBad_iff (by omega) (by omega) x).1 (by
    rw [Bool.not_eq_true] at c4
    have := List.any_eq_false.1 c4 x hx
    simpa using this)
  obtain ⟨o, e1, e2⟩ := gaps_f a b l hn (fun x hx => by have := hok x hx; exact ⟨by have := this.1; omega, by have := this.2.1; omega, by have := this.2.2; omega⟩) (by omega) (by omega) (by omega) (by omega) k hk
  rw [gaps_not (fun x hx => ?_) (fun hc => h (may_chain (by omega) (by omega) (sorts l) hc))] at e2
  · rw [e1, Option.bind_some, (Prod.mk.inj e2).2]
  · obtain ⟨y, hy, rfl⟩ := List.mem_map.1 hx
    exact (hok y ((sort_perm l).mem_iff.1 hy)).2.1
theorem free_true {a b : Int} {l : List E} (h : MayX a b (xs l)) (hn : l.length ≤ 200) (k : Nat) (hk : l.length + 1 < k) : ∃ o, space_Free.f k a b l = some o ∧ xs o = FR a b l := by
  obtain ⟨h1, o, h2, h3⟩ := right_true h hn k hk
  refine ⟨o, ?_, h3⟩
  unfold space_Free.f
  rw [h1, Option.bind_some, if_pos rfl, h2, Option.bind_some]
theorem free_false {a b : Int} {l : List E} (h : ¬ MayX a b (xs l)) (hn : l.length ≤ 200) (k : Nat) (hk : l.length + 1 < k) : space_Free.f k a b l = some [] := by
  unfold space_Free.f
  rw [right_false h hn k hk, Option.bind_some, if_neg (by simp)]
theorem freeL_length : ∀ (l : List X) (p b : Int), (freeL p l b).length ≤ l.length + 1
  | [], p, b => by unfold freeL; split <;> simp
  | x :: l, p, b => by
    have := freeL_length l (x.1 + x.2) b
    unfold freeL
    rw [List.length_append]
    split <;> simp <;> omega
theorem FR_length (a b : Int) (l : List E) : (FR a b l).length ≤ l.length + 1 := by
  have := freeL_length (xs (sortE l)) a b
  rw [xs_length, sortE_length] at this
  exact this
theorem sum_nonneg : ∀ (l : List X), (∀ x ∈ l, 0 ≤ x.2) → 0 ≤ sumX l
  | [], _ => by simp [sumX]
  | x :: l, h => by
    have := sum_nonneg l (fun y hy => h y (List.mem_cons_of_mem _ hy))
    have := h x List.mem_cons_self
    simp only [sumX]; omega
theorem left_l0 (L : List E) (hL : ∀ x ∈ L, 0 ≤ x.f1) (hs : sumX (xs L) ≤ 2147483647) (hn : L.length ≤ 1000) : ∀ (d i k : Nat) (n : Int), i + d = L.length → d < k → 0 ≤ n → n + sumX (xs (L.drop i)) ≤ 2147483647 →
    space_Left.l0 k n L (L.length : Int) (i : Int) = some (n + sumX (xs (L.drop i)))
  | 0, i, k, n, hi, hk, h0, h1 => by
    obtain ⟨k, rfl⟩ : ∃ m, k = m + 1 := ⟨k - 1, by omega⟩
    rw [space_Left.l0, if_neg (by omega), List.drop_of_length_le (by omega)]
    simp [xs, sumX]
  | d + 1, i, k, n, hi, hk, h0, h1 => by
    obtain ⟨k, rfl⟩ : ∃ m, k = m + 1 := ⟨k - 1, by omega⟩
    have hlt : i < L.length := by omega
    have b1 := hL L[i] (List.getElem_mem hlt)
    rw [List.drop_eq_getElem_cons hlt] at h1 ⊢
    have e : sumX (xs (L[i] :: L.drop (i + 1))) = L[i].f1 + sumX (xs (L.drop (i + 1))) := rfl
    rw [e] at h1 ⊢
    have b2 : 0 ≤ sumX (xs (L.drop (i + 1))) := sum_nonneg _ (fun x hx => by
      obtain ⟨y, hy, rfl⟩ := List.mem_map.1 hx
      exact hL y (List.mem_of_mem_drop hy))
    rw [space_Left.l0, if_pos (by omega), if_pos (by omega), if_pos (by omega), rdX_at _ _ hlt, wrap64_in (by omega) (by omega), wrap64_in (by omega) (by omega), show ((i : Int) + 1) = ((i + 1 : Nat) : Int) by omega,
      left_l0 L hL hs hn d (i + 1) k (n + L[i].f1) (by omega) (by omega) (by omega) (by omega)]
    congr 1
    omega
theorem left_true {a b : Int} {l : List E} (h : MayX a b (xs l)) (hn : l.length ≤ 200) (k : Nat) (hk : l.length + 3 < k) : space_Left.f k a b l = some (b - a - sumX (xs l)) := by
  obtain ⟨o, e1, e2⟩ := free_true h hn k (by omega)
  have hc := chain_may h (sorts l)
  have hs := free_sum hc
  rw [sumX_perm (sorts l).1] at hs
  have hl := sum_le hc
  rw [sumX_perm (sorts l).1] at hl
  have hol : o.length ≤ l.length + 1 := by rw [← xs_length, e2]; exact FR_length a b l
  obtain ⟨h1, h2, h3, h4, h5⟩ := h
  have hse := free_sep hc
  unfold space_Left.f
  have e3 : sumX (xs o) = b - a - sumX (xs l) := by rw [e2]; exact hs
  rw [e1, Option.bind_some, show (0 : Int) = ((0 : Nat) : Int) from rfl, left_l0 o (fun x hx => by
    have := hse.1 (x.f0, x.f1) (by have := List.mem_map_of_mem (f := fun x : E => (x.f0, x.f1)) hx; rw [show List.map _ o = FR a b l from e2] at this; exact this)
    have := this.2.1
    simp only at this
    omega) (by omega) (by omega) o.length 0 k _ (by omega) (by omega) (by simp) (by rw [List.drop_zero]; simp; omega), List.drop_zero, e3]
  simp
theorem left_false {a b : Int} {l : List E} (h : ¬ MayX a b (xs l)) (hn : l.length ≤ 200) (k : Nat) (hk : l.length + 3 < k) : space_Left.f k a b l = some 0 := by
  unfold space_Left.f
  rw [free_false h hn k (by omega), Option.bind_some]
  obtain ⟨k, rfl⟩ : ∃ m, k = m + 1 := ⟨k - 1, by omega⟩
  rw [space_Left.l0, if_neg (by simp)]
theorem idx_find (n : Int) : ∀ (l : List E) (i : Nat), (Go.Lib.idxByFrom (fun _ (y : E) => decide (n ≤ y.f1)) default l i = -1 ∧ l.find? (fun y => decide (n ≤ y.f1)) = none) ∨
    (∃ j, ∃ h : j < l.length, Go.Lib.idxByFrom (fun _ (y : E) => decide (n ≤ y.f1)) default l i = ((i + j : Nat) : Int) ∧ l.find? (fun y => decide (n ≤ y.f1)) = some l[j])
  | [], i => .inl ⟨rfl, rfl⟩
  | y :: l, i => by
    by_cases c : n ≤ y.f1
    · refine .inr ⟨0, by simp, ?_, ?_⟩
      · unfold Go.Lib.idxByFrom
        rw [if_pos (by simpa using c)]
        rfl
      · rw [List.find?_cons_of_pos (by simpa using c)]
        rfl
    · have e1 : Go.Lib.idxByFrom (fun _ (y : E) => decide (n ≤ y.f1)) default (y :: l) i = Go.Lib.idxByFrom (fun _ (y : E) => decide (n ≤ y.f1)) default l (i + 1) := by
        rw [Go.Lib.idxByFrom, if_neg (by simpa using c)]
      rw [e1, List.find?_cons_of_neg (by simpa using c)]
      rcases idx_find n l (i + 1) with ⟨h1, h2⟩ | ⟨j, hj, h1, h2⟩
      · exact .inl ⟨h1, h2⟩
      · exact .inr ⟨j + 1, by simp; omega, by rw [h1]; congr 1; omega, h2⟩
theorem find_xs (n : Int) (l : List E) : (xs l).find? (fun x => decide (n ≤ x.2)) = (l.find? (fun y => decide (n ≤ y.f1))).map fun x => (x.f0, x.f1) := by
  unfold xs
  rw [List.find?_map]
  rfl
theorem fit_bad {a b n : Int} {l : List E} (h : ¬ MayX a b (xs l) ∨ n < 1 ∨ 2147483647 < n) (hn : l.length ≤ 200) (k : Nat) (hk : l.length + 1 < k) : space_Fit.f k n a b l = some (0, 0, 1) := by
  unfold space_Fit.f
  by_cases c : MayX a b (xs l)
  · rw [(right_true c hn k hk).1, Option.bind_some, if_pos rfl]
    rcases h with h | h | h
    · exact absurd c h
    · rw [if_pos h]
    · rw [if_neg (by omega), if_pos h]
  · rw [right_false c hn k hk, Option.bind_some, if_neg (by simp)]
theorem fit_good {a b n : Int} {l : List E} (h : MayX a b (xs l)) (h1 : 1 ≤ n) (h2 : n ≤ 2147483647) (hn : l.length ≤ 200) (k : Nat) (hk : l.length + 1 < k) :
    space_Fit.f k n a b l = some (match (FR a b l).find? (fun x => decide (n ≤ x.2)) with | none => (0, 0, 5) | some x => (x.1, n, 0)) := by
  obtain ⟨o, e1, e2⟩ := free_true h hn k hk
  unfold space_Fit.f
  rw [(right_true h hn k hk).1, Option.bind_some, if_pos rfl, if_neg (by omega), if_neg (by omega), e1, Option.bind_some, ← e2, find_xs]
  unfold idxE Go.Lib.idxBy
  rcases idx_find n o 0 with ⟨q1, q2⟩ | ⟨j, hj, q1, q2⟩
  · rw [q1, q2, if_pos (by decide)]
    rfl
  · rw [q1, q2, if_neg (by omega), Nat.zero_add, rdX_at _ _ hj]
    rfl
theorem may_one {x : E} {a b : Int} (h0 : 0 ≤ a) (h1 : b ≤ 2147483647) (h2 : a ≤ x.f0) (h3 : 1 ≤ x.f1) (h4 : x.f0 + x.f1 ≤ b) : MayX a b (xs [x]) :=
  ⟨h0, by omega, h1, fun y hy => by rw [List.mem_singleton.1 hy]; exact ⟨h2, h3, h4⟩, List.pairwise_singleton _ _⟩
end Go.Proofs.Ythcohkgpbjcliaa.Pl
