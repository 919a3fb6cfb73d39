/- What weirkeeperref01.Same comes to; loops over short texts. -/
import Derived.Test.YtpkapldkmleppaaBase
import Derived.Test.YtpkapldkmleppaaFref01
namespace Go.Proofs.Ytpkapldkmleppaa.Pl
open Go.RowKit Go.Proofs.Ytpkapldkmleppaa.F Go.Proofs.YtpkapldkmleppaaW.PrintWords Go.Proofs.YtpkapldkmleppaaW.PrintLast Go.Proofs.YtpkapldkmleppaaW.PrintMore
set_option linter.unusedVariables false
set_option linter.unusedSimpArgs false
theorem same01_loop (a b : List (List UInt8)) (hn : a.length ≤ 9223372036854775806) (hab : a.length = b.length) (d : Nat) : ∀ (k i : Nat), i + d = a.length → d < k →
    weirkeeperref01_Same.l0 k (a.map B) (b.map B) (i : Int) = some (decide (a.drop i = b.drop i)) := by
  induction d with
  | zero =>
    intro k i hi hk
    obtain ⟨k, rfl⟩ : ∃ m, k = m + 1 := ⟨k - 1, by omega⟩
    simp only [weirkeeperref01_Same.l0]
    rw [List.length_map, if_neg (by omega), List.drop_of_length_le (by omega), List.drop_of_length_le (by omega)]
    simp
  | succ d ih =>
    intro k i hi hk
    obtain ⟨k, rfl⟩ : ∃ m, k = m + 1 := ⟨k - 1, by omega⟩
    have w4 : wrap64 ((i : Int) + 1) = ((i + 1 : Nat) : Int) := by rw [wrap64_in (by omega) (by omega)]; omega
    have h1 : i < a.length := by omega
    have h2 : i < b.length := by omega
    have r1 : rdOf ByteArray.empty (a.map B) (i : Int) = B a[i] := by simp [rdOf, h1]
    have r2 : rdOf ByteArray.empty (b.map B) (i : Int) = B b[i] := by simp [rdOf, h2]
    simp only [weirkeeperref01_Same.l0]
    rw [List.length_map, List.length_map, if_pos (by omega), if_pos (by omega), if_pos (by omega), r1, r2, B_toList, B_toList, w4, List.drop_eq_getElem_cons h1, List.drop_eq_getElem_cons h2]
    by_cases e : a[i] = b[i]
    · rw [if_pos e, ih k (i + 1) (by omega) (by omega)]
      simp only [List.cons.injEq, e, true_and]
    · rw [if_neg e]
      simp only [List.cons.injEq, e, false_and, decide_false]

theorem same01_eq (a b : List (List UInt8)) (hn : a.length ≤ 9223372036854775806) (k : Nat) (hk : a.length + 1 ≤ k) : weirkeeperref01_Same.f k (a.map B) (b.map B) = some (decide (a = b)) := by
  unfold weirkeeperref01_Same.f
  rw [List.length_map, List.length_map]
  by_cases h : a.length = b.length
  · have := same01_loop a b hn h a.length k 0 (by omega) (by omega)
    rw [if_pos (by omega)]
    simpa using this
  · rw [if_neg (by omega)]
    congr 1
    symm
    rw [decide_eq_false_iff_not]
    intro e
    exact h (by rw [e])
theorem strs_of (l : List ByteArray) : l = (l.map fun s => s.data.toList).map B := by
  rw [List.map_map]
  conv => lhs; rw [← List.map_id l]
  apply List.map_congr_left
  intro s _
  exact B_of s


theorem wf_u32 {n : Int} (h : (Lit.int .u32 n).wf = true) : 0 ≤ n ∧ n < 4294967296 := by
  simp [Lit.wf, IntKind.min, IntKind.max, IntKind.signed, IntKind.bits] at h
  omega
/-- a loop that looks whether texts are short; behind it the rest; else the fixed answer -/
theorem short_loop {g : Nat → Int → Option Bool} {aw fin : Nat → Option Bool} (x : List (List UInt8)) (C K : Nat) (n : Int) (hn : n = (x.length : Int))
    (step : ∀ k i, g (k + 1) i = if i < n then (if 0 ≤ i then (if i < ((x.map B).length : Int) then (if ((rdOf ByteArray.empty (x.map B) i).size : Int) > (C : Int) then aw k else g k (wrap64 (i + 1))) else none) else none) else fin k)
    (haw : ∀ k, K ≤ k → aw k = some true) (hfin : (∀ s ∈ x, s.length ≤ C) → ∀ k, K ≤ k → fin k = some true) (hx : x.length ≤ 9223372036854775806) :
    ∀ (d i k : Nat), i + d = x.length → K + d + 1 ≤ k → (∀ s ∈ x.take i, s.length ≤ C) → g k (i : Int) = some true
  | 0, i, k, hi, hk, hs => by
    obtain ⟨k, rfl⟩ : ∃ m, k = m + 1 := ⟨k - 1, by omega⟩
    rw [step, if_neg (by omega)]
    rw [List.take_of_length_le (by omega)] at hs
    exact hfin hs k (by omega)
  | d + 1, i, k, hi, hk, hs => by
    obtain ⟨k, rfl⟩ : ∃ m, k = m + 1 := ⟨k - 1, by omega⟩
    have h1 : i < x.length := by omega
    have r1 : rdOf ByteArray.empty (x.map B) (i : Int) = B x[i] := by simp [rdOf, h1]
    rw [step, if_pos (by omega), if_pos (by omega), if_pos (by rw [List.length_map]; omega), r1, B_size]
    by_cases c : x[i].length ≤ C
    · rw [if_neg (by omega), wrap64_in (by omega) (by omega), show ((i : Int) + 1) = ((i + 1 : Nat) : Int) by omega]
      refine short_loop x C K n hn step haw hfin hx d (i + 1) k (by omega) (by omega) fun s hs' => ?_
      rw [List.take_succ_eq_append_getElem h1] at hs'
      rcases List.mem_append.1 hs' with hs' | hs'
      · exact hs s hs'
      · rw [List.mem_singleton.1 hs']
        exact c
    · rw [if_pos (by omega)]
      exact haw k (by omega)
end Go.Proofs.Ytpkapldkmleppaa.Pl
