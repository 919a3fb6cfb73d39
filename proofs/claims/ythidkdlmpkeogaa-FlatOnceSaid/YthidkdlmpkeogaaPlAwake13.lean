/- The fixed answer of layer 13's statements, and their tests of short lists and texts. -/
import Derived.Test.YthidkdlmpkeogaaFlaw13awake
import Derived.Test.YthidkdlmpkeogaaFlaw13fit
import Derived.Test.YthidkdlmpkeogaaFlaw13short
import Derived.Test.YthidkdlmpkeogaaPlFlatB
namespace Go.Proofs.Ythidkdlmpkeogaa.Pl
open Go.RowKit Go.Proofs.Ythidkdlmpkeogaa.F Go.Proofs.YthidkdlmpkeogaaW.PrintWords Go.Proofs.YthidkdlmpkeogaaW.PrintLast Go.Proofs.YthidkdlmpkeogaaW.PrintMore
set_option linter.unusedVariables false
set_option linter.unusedSimpArgs false

theorem short13_loop (l : List ByteArray) (hn : l.length ≤ 9223372036854775806) (d : Nat) : ∀ (k i : Nat), i + d = l.length → d < k →
    weirkeeperlaw13_short.l0 k l (l.length : Int) (i : Int) = some (decide (∀ s ∈ l.drop i, s.size ≤ 300)) := by
  induction d with
  | zero =>
    intro k i hi hk
    obtain ⟨k, rfl⟩ : ∃ m, k = m + 1 := ⟨k - 1, by omega⟩
    simp only [weirkeeperlaw13_short.l0]
    rw [if_neg (by omega), List.drop_of_length_le (by omega)]
    simp
  | succ d ih =>
    intro k i hi hk
    obtain ⟨k, rfl⟩ : ∃ m, k = m + 1 := ⟨k - 1, by omega⟩
    have hlt : i < l.length := by omega
    have w4 : wrap64 ((i : Int) + 1) = ((i + 1 : Nat) : Int) := by rw [wrap64_in (by omega) (by omega)]; omega
    have r : rdOf ByteArray.empty l (i : Int) = l[i] := by simp [rdOf, hlt]
    simp only [weirkeeperlaw13_short.l0]
    rw [if_pos (by omega), if_pos (by omega), if_pos (by omega), r, w4, List.drop_eq_getElem_cons hlt]
    by_cases c : (l[i].size : Int) > 300
    · rw [if_pos c, decide_eq_false fun hh => by have := hh _ (List.mem_cons_self ..); omega]
    · rw [if_neg c, ih k (i + 1) (by omega) (by omega)]
      congr 1
      rw [decide_eq_decide]
      constructor
      · intro h s hs
        rcases List.mem_cons.1 hs with rfl | hs
        · omega
        · exact h s hs
      · exact fun h s hs => h s (List.mem_cons_of_mem _ hs)
theorem short13_eq (l : List ByteArray) (hn : l.length ≤ 9223372036854775806) (k : Nat) (hk : l.length + 1 ≤ k) : weirkeeperlaw13_short.f k l = some (decide (∀ s ∈ l, s.size ≤ 300)) := by
  unfold weirkeeperlaw13_short.f
  exact short13_loop l hn l.length k 0 (by omega) (by omega)

theorem fit2 (c : List Change) (hn : c.length ≤ 30) (d : Nat) : ∀ (k i : Nat), i + d = c.length → d + 10 ≤ k → ∃ b, weirkeeperlaw13_fit.l2 k c (c.length : Int) (i : Int) = some b := by
  induction d with
  | zero =>
    intro k i hi hk
    obtain ⟨k, rfl⟩ : ∃ m, k = m + 1 := ⟨k - 1, by omega⟩
    simp only [weirkeeperlaw13_fit.l2]
    rw [if_neg (by omega)]
    exact ⟨_, rfl⟩
  | succ d ih =>
    intro k i hi hk
    obtain ⟨k, rfl⟩ : ∃ m, k = m + 1 := ⟨k - 1, by omega⟩
    have w4 : wrap64 ((i : Int) + 1) = ((i + 1 : Nat) : Int) := by rw [wrap64_in (by omega) (by omega)]; omega
    simp only [weirkeeperlaw13_fit.l2]
    rw [if_pos (by omega), if_pos (by omega), if_pos (by omega), short13_eq _ (by simp) k (by simp; omega), Option.bind_some, w4]
    split
    · exact ih k (i + 1) (by omega) (by omega)
    · exact ⟨_, rfl⟩
theorem fit1 (c : List Change) (hc : c.length ≤ 30) (p : List Pair) (hn : p.length ≤ 30) (d : Nat) : ∀ (k i : Nat), i + d = p.length → d + 50 ≤ k → ∃ b, weirkeeperlaw13_fit.l1 k c p (p.length : Int) (i : Int) = some b := by
  induction d with
  | zero =>
    intro k i hi hk
    obtain ⟨k, rfl⟩ : ∃ m, k = m + 1 := ⟨k - 1, by omega⟩
    simp only [weirkeeperlaw13_fit.l1]
    rw [if_neg (by omega)]
    exact fit2 c hc c.length k 0 (by omega) (by omega)
  | succ d ih =>
    intro k i hi hk
    obtain ⟨k, rfl⟩ : ∃ m, k = m + 1 := ⟨k - 1, by omega⟩
    have w4 : wrap64 ((i : Int) + 1) = ((i + 1 : Nat) : Int) := by rw [wrap64_in (by omega) (by omega)]; omega
    simp only [weirkeeperlaw13_fit.l1]
    rw [if_pos (by omega), if_pos (by omega), if_pos (by omega), short13_eq _ (by simp) k (by simp; omega), Option.bind_some, w4]
    split
    · exact ih k (i + 1) (by omega) (by omega)
    · exact ⟨_, rfl⟩
theorem fit0 (c : List Change) (hc : c.length ≤ 30) (p : List Pair) (hp : p.length ≤ 30) (n : List Note) (hn : n.length ≤ 30) (d : Nat) : ∀ (k i : Nat), i + d = n.length → d + 100 ≤ k → ∃ b, weirkeeperlaw13_fit.l0 k p c n (n.length : Int) (i : Int) = some b := by
  induction d with
  | zero =>
    intro k i hi hk
    obtain ⟨k, rfl⟩ : ∃ m, k = m + 1 := ⟨k - 1, by omega⟩
    simp only [weirkeeperlaw13_fit.l0]
    rw [if_neg (by omega)]
    exact fit1 c hc p hp p.length k 0 (by omega) (by omega)
  | succ d ih =>
    intro k i hi hk
    obtain ⟨k, rfl⟩ : ∃ m, k = m + 1 := ⟨k - 1, by omega⟩
    have w4 : wrap64 ((i : Int) + 1) = ((i + 1 : Nat) : Int) := by rw [wrap64_in (by omega) (by omega)]; omega
    simp only [weirkeeperlaw13_fit.l0]
    rw [if_pos (by omega), if_pos (by omega), if_pos (by omega), short13_eq _ (by simp) k (by simp; omega), Option.bind_some, w4]
    split
    · exact ih k (i + 1) (by omega) (by omega)
    · exact ⟨_, rfl⟩
theorem fit_some (n : List Note) (p : List Pair) (c : List Change) (k : Nat) (hk : 200 ≤ k) : ∃ b, weirkeeperlaw13_fit.f k n p c = some b ∧ (b = true → n.length ≤ 30 ∧ p.length ≤ 30 ∧ c.length ≤ 30) := by
  obtain ⟨k, rfl⟩ : ∃ m, k = m + 1 := ⟨k - 1, by omega⟩
  unfold weirkeeperlaw13_fit.f
  simp only [weirkeeperlaw13_fit.j0]
  by_cases h1 : (n.length : Int) > 30
  · rw [if_pos h1, if_pos trivial]; exact ⟨_, rfl, fun h => absurd h (by decide)⟩
  rw [if_neg h1]
  by_cases h2 : (p.length : Int) > 30
  · rw [if_pos h2, if_pos trivial]; exact ⟨_, rfl, fun h => absurd h (by decide)⟩
  rw [if_neg h2]
  by_cases h3 : (c.length : Int) > 30
  · rw [if_pos (decide_eq_true h3)]; exact ⟨_, rfl, fun h => absurd h (by decide)⟩
  rw [if_neg (by rw [decide_eq_false h3]; decide)]
  obtain ⟨b, hb⟩ := fit0 c (by omega) p (by omega) n (by omega) n.length k 0 (by omega) (by omega)
  exact ⟨b, hb, fun _ => ⟨by omega, by omega, by omega⟩⟩

theorem awake13_holds : ∃ K, ∀ k, K ≤ k → weirkeeperlaw13_awake.f k = some true := by
  refine ⟨70000, fun k hk => ?_⟩
  have hN : ∀ n ∈ [(⟨3, B [107], B [], 7⟩ : Note)], nright n = true := by
    intro n hn
    rw [List.mem_singleton] at hn
    subst hn
    rfl
  have hF : ∀ n ∈ [(⟨3, B [107], B [], 7⟩ : Note)], nfine n := by
    intro n hn
    rw [List.mem_singleton] at hn
    subst hn
    exact ⟨by decide, by decide⟩
  have n1 := notes_eq [⟨3, B [107], B [], 7⟩] hF k (by simp; omega)
  have v1 : listR nright encN [⟨3, B [107], B [], 7⟩] = (B [0, 1, 3, 0, 1, 107, 0, 0, 0, 0, 0, 0, 0, 0, 0, 7], 0) := if_pos ⟨by decide, hN⟩
  have t1 := takeNotes_eq ([0, 1, 3, 0, 1, 107, 0, 0, 0, 0, 0, 0, 0, 0, 0, 7] ++ [120]) (by simp) k hk
  have u1 : takeLR gN nright ([0, 1, 3, 0, 1, 107, 0, 0, 0, 0, 0, 0, 0, 0, 0, 7] ++ [120]) = ([⟨3, B [107], B [], 7⟩], B [120], 0) := by
    unfold takeLR
    have := takeL_of (g := gN) (may := nright) (enc := encN) (Pr := nfine) (fun x q hp hm => gN_of x q hp hm) [⟨3, B [107], B [], 7⟩] [120] hF hN (by decide)
    rw [show be [(⟨3, B [107], B [], 7⟩ : Note)].length 2 ++ [(⟨3, B [107], B [], 7⟩ : Note)].flatMap encN ++ [120] = [0, 1, 3, 0, 1, 107, 0, 0, 0, 0, 0, 0, 0, 0, 0, 7] ++ [120] from rfl] at this
    rw [this]
  have c1 := changes_eq [⟨5, B [97], false, B [], true, B [118]⟩] k (by simp; omega)
  have w1 : listR cmay encC [⟨5, B [97], false, B [], true, B [118]⟩] = (B [0, 1, 0, 0, 0, 5, 0, 1, 97, 0, 0, 0, 1, 0, 1, 118], 0) := if_pos ⟨by decide, by
    intro c hc
    rw [List.mem_singleton] at hc
    subst hc
    unfold cmay
    rw [decide_eq_true_iff]
    exact ⟨⟨by decide, by decide, by decide⟩, ⟨by decide, by decide⟩, Or.inr rfl, Or.inl rfl, Or.inr rfl⟩⟩
  have c2 := changes_eq [⟨5, B [97], false, B [], false, B []⟩] k (by simp; omega)
  have w2 : listR cmay encC [⟨5, B [97], false, B [], false, B []⟩] = (B [], 1) := if_neg fun hh => by
    have := hh.2 _ (List.mem_singleton.2 rfl)
    unfold cmay at this
    rw [decide_eq_true_iff] at this
    rcases this.2.2.2.2 with h | h <;> exact absurd h (by decide)
  have p1 := pairs_eq [] k (by simp; omega)
  have q1 : listR pright encP [] = (B [0, 0], 0) := if_pos ⟨by decide, fun _ h => absurd h (by simp)⟩
  have r1 := range_eq (B [97]) (B []) true (by decide) (by decide) k (by omega)
  have s1 : rangeR (B [97]) (B []) true = (B [0, 1, 97, 0, 0, 1], 0) := if_pos (by
    unfold rright
    rw [decide_eq_true_iff]
    exact ⟨by decide, by decide, fun _ => rfl⟩)
  unfold weirkeeperlaw13_awake.f
  change (flat_Notes.f k [⟨3, B [107], B [], 7⟩]).bind _ = _
  rw [n1, v1, Option.bind_some]
  simp only
  rw [if_pos (by rw [B_size]; decide)]
  change (flat_TakeNotes.f k (B [0, 1, 3, 0, 1, 107, 0, 0, 0, 0, 0, 0, 0, 0, 0, 7] ++ B [120])).bind _ = _
  rw [B_append, t1, u1, Option.bind_some]
  change (flat_Changes.f k [⟨5, B [97], false, B [], true, B [118]⟩]).bind _ = _
  rw [c1, w1, Option.bind_some]
  change (flat_Changes.f k [⟨5, B [97], false, B [], false, B []⟩]).bind _ = _
  rw [c2, w2, Option.bind_some, p1, q1, Option.bind_some]
  change (flat_Range.f k (B [97]) (B []) true).bind _ = _
  rw [r1, s1, Option.bind_some]
  simp only [B_toList]
  rfl
end Go.Proofs.Ythidkdlmpkeogaa.Pl
