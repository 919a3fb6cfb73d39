/- What note.Right comes to. -/
import Derived.Test.YtgccimhdbphenaaFnote
import Derived.Test.YtgccimhdbphenaaBase
namespace Go.Proofs.Ytgccimhdbphenaa.Pl
open Go.RowKit Go.Proofs.Ytgccimhdbphenaa.F Go.Proofs.YtgccimhdbphenaaW.PrintWords Go.Proofs.YtgccimhdbphenaaW.PrintLast Go.Proofs.YtgccimhdbphenaaW.PrintMore
set_option linter.unusedVariables false
set_option linter.unusedSimpArgs false

abbrev Note := S55

/-- is it a note? -/
def nright (n : Note) : Bool :=
  decide (n.f1.size ≤ 16 ∧ n.f2.size ≤ 32 ∧ ((n.f0 = 1 ∧ n.f3 = 0) ∨ (n.f0 = 2 ∧ n.f3 = 0 ∧ n.f2 = B []) ∨ (n.f0 = 3 ∧ n.f2 = B [])))

/-- its number is one of eight bytes -/
def nfine (n : Note) : Prop := 0 ≤ n.f3 ∧ n.f3 < 18446744073709551616

theorem nil_of (s : ByteArray) : (s.toList = ([] : List UInt8)) ↔ s = B [] := by
  constructor
  · intro h
    rw [ByteArray.toList_eq] at h
    rw [B_of s, h]
  · intro h
    rw [h, B_toList]

theorem right_eq (n : Note) (k : Nat) (hk : 1 ≤ k) : note_Right.f k n.f0 n.f1 n.f2 n.f3 = some (nright n) := by
  obtain ⟨k, rfl⟩ : ∃ m, k = m + 1 := ⟨k - 1, by omega⟩
  unfold note_Right.f nright
  simp only [note_Right.j0]
  have e : (n.f2.toList == ([] : List UInt8)) = decide (n.f2 = B []) := by
    rw [Bool.eq_iff_iff, beq_iff_eq, decide_eq_true_iff]
    exact nil_of _
  rw [e]
  by_cases h1 : (n.f1.size : Int) > 16
  · rw [if_pos h1, if_pos trivial, decide_eq_false (by omega)]
  · rw [if_neg h1]
    by_cases h2 : (n.f2.size : Int) > 32
    · rw [decide_eq_true h2, if_pos rfl, decide_eq_false (by omega)]
    · rw [decide_eq_false h2, if_neg (by decide)]
      have g1 : n.f1.size ≤ 16 := by omega
      have g2 : n.f2.size ≤ 32 := by omega
      by_cases c1 : n.f0 = 1
      · simp [c1, g1, g2, Bool.beq_eq_decide_eq]
      · by_cases c2 : n.f0 = 2
        · by_cases c : n.f3 = 0 <;> simp [c2, g1, g2, c]
        · by_cases c3 : n.f0 = 3
          · simp [c3, g1, g2]
          · simp [c1, c2, c3]

theorem rdT (l : List Note) (i : Nat) (h : i < l.length) : rd_T55 l (i : Int) = l[i] := by
  simp [rd_T55, h]

end Go.Proofs.Ytgccimhdbphenaa.Pl
