/- What weirkeeperref04.Same answers, in plain words: whether the lists are the same. -/
import Derived.Test.YthidkdlmpkeogaaBase
import Derived.Test.YthidkdlmpkeogaaFref04
import Derived.Test.YthidkdlmpkeogaaFref04
namespace Go.Proofs.Ythidkdlmpkeogaa.Pl
open Go.RowKit Go.Proofs.Ythidkdlmpkeogaa.F Go.Proofs.YthidkdlmpkeogaaW.PrintWords Go.Proofs.YthidkdlmpkeogaaW.PrintLast Go.Proofs.YthidkdlmpkeogaaW.PrintMore
set_option linter.unusedVariables false
set_option linter.unusedSimpArgs false
abbrev RWr := F.S148
instance : DecidableEq RWr := fun a b => decidable_of_iff (a.f0 = b.f0 ∧ a.f1 = b.f1) (by cases a; cases b; simp)
theorem rdOf_at {α : Type} (d : α) (l : List α) (i : Nat) (h : i < l.length) : rdOf d l (i : Int) = l[i] := by
  show l.getD (i : Int).toNat d = _
  rw [Int.toNat_natCast, List.getD_eq_getElem?_getD, List.getElem?_eq_getElem h]
  rfl
theorem rdRW_at (l : List RWr) (i : Nat) (h : i < l.length) : rd_T148 l (i : Int) = l[i] := rdOf_at _ l i h
theorem str_eq {a b : ByteArray} : a.toList = b.toList ↔ a = b := by
  constructor
  · intro h
    rw [ByteArray.toList_eq, ByteArray.toList_eq] at h
    exact ByteArray.ext (Array.toList_inj.1 h)
  · rintro rfl; rfl
theorem rw_eq {a b : RWr} : (!(a.f0 == b.f0) || !(a.f1.toList == b.f1.toList)) = true ↔ a ≠ b := by
  obtain ⟨a0, a1⟩ := a
  obtain ⟨b0, b1⟩ := b
  simp only [Bool.or_eq_true, Bool.not_eq_true', beq_eq_false_iff_ne, ne_eq, S148.mk.injEq, str_eq]
  by_cases h : a0 = b0 <;> simp [h]
theorem same_l1 (S S' : List ByteArray) (W W' : List RWr) (h : W.length = W'.length) (hm : W.length ≤ 9223372036854775807) : ∀ (d i k : Nat), i + d = W.length → d < k →
    weirkeeperref04_Same.l1 k (i : Int) S W S' W' = some (decide (W.drop i = W'.drop i))
  | 0, i, k, hi, hk => by
    obtain ⟨k, rfl⟩ : ∃ m, k = m + 1 := ⟨k - 1, by omega⟩
    rw [weirkeeperref04_Same.l1, if_neg (by omega), List.drop_of_length_le (by omega), List.drop_of_length_le (by omega)]
    simp
  | d + 1, i, k, hi, hk => by
    obtain ⟨k, rfl⟩ : ∃ m, k = m + 1 := ⟨k - 1, by omega⟩
    have h1 : i < W.length := by omega
    have h2 : i < W'.length := by omega
    rw [weirkeeperref04_Same.l1, if_pos (by omega), if_pos (by omega), if_pos (by omega), rdRW_at _ _ h1, rdRW_at _ _ h2, List.drop_eq_getElem_cons h1, List.drop_eq_getElem_cons h2]
    by_cases c : W[i] = W'[i]
    · rw [if_neg (by rw [rw_eq]; exact fun h => h c), wrap64_in (by omega) (by omega), show ((i : Int) + 1) = ((i + 1 : Nat) : Int) by omega, same_l1 S S' W W' h hm d (i + 1) k (by omega) (by omega)]
      simp only [List.cons.injEq, c, true_and]
    · rw [if_pos (by rw [rw_eq]; exact c)]
      simp only [List.cons.injEq, c, false_and, decide_false]
theorem same_l0 (S S' : List ByteArray) (W W' : List RWr) (h0 : S.length = S'.length) (h : W.length = W'.length) (hn : S.length ≤ 9223372036854775807) (hm : W.length ≤ 9223372036854775807) : ∀ (d i k : Nat), i + d = S.length → d + W.length + 1 < k →
    weirkeeperref04_Same.l0 k (i : Int) S W S' W' = some (decide (S.drop i = S'.drop i ∧ W = W'))
  | 0, i, k, hi, hk => by
    obtain ⟨k, rfl⟩ : ∃ m, k = m + 1 := ⟨k - 1, by omega⟩
    rw [weirkeeperref04_Same.l0, if_neg (by omega), List.drop_of_length_le (by omega), List.drop_of_length_le (by omega)]
    have := same_l1 S S' W W' h hm W.length 0 k (by omega) (by omega)
    simpa using this
  | d + 1, i, k, hi, hk => by
    obtain ⟨k, rfl⟩ : ∃ m, k = m + 1 := ⟨k - 1, by omega⟩
    have h1 : i < S.length := by omega
    have h2 : i < S'.length := by omega
    rw [weirkeeperref04_Same.l0, if_pos (by omega), if_pos (by omega), if_pos (by omega), rdOf_at _ _ _ h1, rdOf_at _ _ _ h2, List.drop_eq_getElem_cons h1, List.drop_eq_getElem_cons h2]
    by_cases c : S[i] = S'[i]
    · rw [if_pos (str_eq.2 c), wrap64_in (by omega) (by omega), show ((i : Int) + 1) = ((i + 1 : Nat) : Int) by omega, same_l0 S S' W W' h0 h hn hm d (i + 1) k (by omega) (by omega)]
      simp only [List.cons.injEq, c, true_and]
    · rw [if_neg (fun h => c (str_eq.1 h))]
      simp only [List.cons.injEq, c, false_and, decide_false]
theorem same_eq (S S' : List ByteArray) (W W' : List RWr) (hn : S.length ≤ 9223372036854775807) (hm : W.length ≤ 9223372036854775807) (k : Nat) (hk : S.length + W.length + 2 < k) :
    weirkeeperref04_Same.f k S W S' W' = some (decide (S = S' ∧ W = W')) := by
  obtain ⟨k, rfl⟩ : ∃ m, k = m + 1 := ⟨k - 1, by omega⟩
  unfold weirkeeperref04_Same.f
  by_cases c : (S.length : Int) = (S'.length : Int)
  · rw [if_pos c, weirkeeperref04_Same.j0]
    by_cases c2 : W.length = W'.length
    · rw [if_neg (by simp [c2]), show (0 : Int) = ((0 : Nat) : Int) from rfl, same_l0 S S' W W' (by omega) c2 hn hm S.length 0 k (by omega) (by omega)]
      simp
    · rw [if_pos (by simp; omega)]
      have : W ≠ W' := fun h => c2 (by rw [h])
      simp [this]
  · rw [if_neg c, weirkeeperref04_Same.j0, if_pos rfl]
    have : S ≠ S' := fun h => c (by rw [h])
    simp [this]
theorem small_eq (S : List ByteArray) (W : List RWr) : weirkeeperref04_Small.f S W = some (decide (S.length ≤ 100 ∧ W.length ≤ 60)) := by
  unfold weirkeeperref04_Small.f
  by_cases c : (S.length : Int) ≤ 100
  · rw [if_pos c]
    congr 1
    rw [decide_eq_decide]
    omega
  · rw [if_neg c]
    congr 1
    symm
    rw [decide_eq_false_iff_not]
    omega
end Go.Proofs.Ythidkdlmpkeogaa.Pl
