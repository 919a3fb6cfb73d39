/- The fixed answer of layer 9's statements, and their test of short texts. -/
import Derived.Test.YtgccimhdbphenaaFlaw09awake
import Derived.Test.YtgccimhdbphenaaFlaw09short
import Derived.Test.YtgccimhdbphenaaPlNote
namespace Go.Proofs.Ytgccimhdbphenaa.Pl
open Go.RowKit Go.Proofs.Ytgccimhdbphenaa.F Go.Proofs.YtgccimhdbphenaaW.PrintWords Go.Proofs.YtgccimhdbphenaaW.PrintLast Go.Proofs.YtgccimhdbphenaaW.PrintMore
set_option linter.unusedVariables false
set_option linter.unusedSimpArgs false

theorem short_loop (l : List Note) (hn : l.length ≤ 9223372036854775806) (d : Nat) : ∀ (k i : Nat), i + d = l.length → d < k → ∃ b, weirkeeperlaw09_short.l0 k l (l.length : Int) (i : Int) = some b := by
  induction d with
  | zero =>
    intro k i hi hk
    obtain ⟨k, rfl⟩ : ∃ m, k = m + 1 := ⟨k - 1, by omega⟩
    simp only [weirkeeperlaw09_short.l0]
    rw [if_neg (by omega)]
    exact ⟨_, rfl⟩
  | succ d ih =>
    intro k i hi hk
    obtain ⟨k, rfl⟩ : ∃ m, k = m + 1 := ⟨k - 1, by omega⟩
    have w4 : wrap64 ((i : Int) + 1) = ((i + 1 : Nat) : Int) := by rw [wrap64_in (by omega) (by omega)]; omega
    simp only [weirkeeperlaw09_short.l0]
    rw [if_pos (by omega), if_pos (by omega), if_pos (by omega), w4]
    obtain ⟨b, hb⟩ := ih k (i + 1) (by omega) (by omega)
    split
    · exact ⟨_, rfl⟩
    · split
      · exact ⟨_, rfl⟩
      · exact ⟨b, hb⟩
theorem short_some (l : List Note) (hn : l.length ≤ 9223372036854775806) (k : Nat) (hk : l.length + 1 ≤ k) : ∃ b, weirkeeperlaw09_short.f k l = some b := by
  unfold weirkeeperlaw09_short.f
  exact short_loop l hn l.length k 0 (by omega) (by omega)

theorem awake09_holds : ∃ K, ∀ k, K ≤ k → weirkeeperlaw09_awake.f k = some true := by
  refine ⟨40, fun k hk => ?_⟩
  have d1 := done_eq (B [120]) true [⟨3, B [], B [], 5⟩, ⟨3, B [], B [], 18446744073709551613⟩] (by
    intro n hn
    rcases List.mem_cons.1 hn with rfl | hn
    · exact ⟨by decide, by decide⟩
    · rw [List.mem_singleton] at hn; subst hn; exact ⟨by decide, by decide⟩) (by simp) k (by simp; omega)
  have d2 := done_eq (B [120]) true [⟨2, B [], B [], 0⟩] (by intro n hn; rw [List.mem_singleton] at hn; subst hn; exact ⟨by decide, by decide⟩) (by simp) k (by simp; omega)
  have b1 := both_eq ⟨2, B [107], B [], 0⟩ ⟨3, B [107], B [], 7⟩ ⟨by decide, by decide⟩ k (by omega)
  have v1 : done (B [120]) true [⟨3, B [], B [], 5⟩, ⟨3, B [], B [], 18446744073709551613⟩] = (B [0, 0, 0, 0, 0, 0, 0, 2], true) := by
    have n1 : number (B [120]) = 0 := by unfold number; rw [if_neg (by rw [B_size]; decide)]
    simp only [done, List.foldl_cons, List.foldl_nil, nstep, n1, number_num8]
    rfl
  have v2 : done (B [120]) true [⟨2, B [], B [], 0⟩] = (B [], false) := rfl
  have v3 : both ⟨2, B [107], B [], 0⟩ ⟨3, B [107], B [], 7⟩ = ⟨1, B [107], B [0, 0, 0, 0, 0, 0, 0, 7], 0⟩ := by
    simp only [both, done, nstep, List.foldl_cons, List.foldl_nil]
    have n1 : number (B []) = 0 := number_nil
    simp [n1]
    rfl
  rw [v1] at d1; rw [v2] at d2; rw [v3] at b1
  have r1 := right_eq ⟨1, B [107], B [0, 0, 0, 0, 0, 0, 0, 7], 0⟩ k (by omega)
  have r2 : nright ⟨1, B [107], B [0, 0, 0, 0, 0, 0, 0, 7], 0⟩ = true := by
    unfold nright
    rw [decide_eq_true_iff, B_size, B_size]
    exact ⟨by decide, by decide, Or.inl ⟨rfl, rfl⟩⟩
  rw [r2] at r1
  have m1 := number_eq (B [0, 0, 0, 0, 0, 0, 0, 7]) k (by omega)
  have m2 : number (B [0, 0, 0, 0, 0, 0, 0, 7]) = 7 := by
    unfold number
    rw [if_pos (by rw [B_size]; decide), B_data]
    decide
  have m3 := number_eq (B [55]) k (by omega)
  have m4 : number (B [55]) = 0 := by unfold number; rw [if_neg (by rw [B_size]; decide)]
  rw [m2] at m1; rw [m4] at m3
  unfold weirkeeperlaw09_awake.f
  change (note_Done.f k (B [120]) true [⟨3, B [], B [], 5⟩, ⟨3, B [], B [], 18446744073709551613⟩]).bind _ = _
  rw [d1, Option.bind_some]
  change (note_Done.f k (B [120]) true [⟨2, B [], B [], 0⟩]).bind _ = _
  rw [d2, Option.bind_some]
  change (note_Both.f k 2 (B [107]) (B []) 0 3 (B [107]) (B []) 7).bind _ = _
  rw [b1, Option.bind_some]
  simp only [B_toList, r1, m1, Option.bind_some]
  rw [if_pos trivial, if_pos trivial, if_neg (by decide), if_pos (by decide), if_pos trivial, if_pos (by decide)]
  change (note_Number.f k (B [55])).bind _ = _
  rw [m3]
  rfl
end Go.Proofs.Ytgccimhdbphenaa.Pl
