/- What bytes begin with, by the document, plainly. -/
import Derived.Test.YthfjcplhjbaplaaAbV
namespace Go.Ab
set_option linter.all false
theorem rtext_rest (s : List UInt8) (h : (rtext s).2.2 = false) : (rtext s).2.1 = s.drop (2 + (rtext s).1.length) ∧ 2 + (rtext s).1.length ≤ s.length ∧ (rtext s).1.length ≤ 65535 := by
  unfold rtext at *
  by_cases c : s.length < 2 ∨ s.length < 2 + val (s.take 2)
  · rw [if_pos c] at h; cases h
  · rw [if_neg c]
    have hv := val_lt (s.take 2)
    rw [List.length_take, Nat.min_eq_left (by omega)] at hv
    simp only [List.length_take, List.length_drop]
    rw [Nat.min_eq_left (by omega), List.drop_drop]
    exact ⟨rfl, by omega, by omega⟩
theorem rtext_len (s : List UInt8) : (rtext s).1.length ≤ 65535 := by
  cases h : (rtext s).2.2 with
  | false => exact (rtext_rest s h).2.2
  | true =>
    unfold rtext at *
    by_cases c : s.length < 2 ∨ s.length < 2 + val (s.take 2)
    · rw [if_pos c]; simp
    · rw [if_neg c] at h; cases h
theorem rnum_ok (s : List UInt8) (n : Nat) (h : n ≤ s.length) : rnum s n = (val (s.take n), s.drop n, false) := if_neg (by omega)
theorem rnum_bad (s : List UInt8) (n : Nat) (h : s.length < n) : rnum s n = (0, [], true) := if_pos h
theorem rtext_bad (s : List UInt8) (h : (rtext s).2.2 = true) : rtext s = ([], [], true) := by
  unfold rtext at *
  by_cases c : s.length < 2 ∨ s.length < 2 + val (s.take 2)
  · exact if_pos c
  · rw [if_neg c] at h; cases h
theorem rtext_nil : rtext [] = ([], [], true) := rfl
theorem val_one (s : List UInt8) (h : 1 ≤ s.length) : val (s.take 1) = (s.getD 0 0).toNat := by
  cases s with
  | nil => simp at h
  | cons a s => simp [val]
theorem rtext_two (s : List UInt8) : rtext s = ([], [], true) ∨ ∃ t r, rtext s = (t, r, false) ∧ r = s.drop (2 + t.length) ∧ 2 + t.length ≤ s.length ∧ t.length ≤ 65535 := by
  by_cases h : (rtext s).2.2 = true
  · exact .inl (rtext_bad s h)
  · have h' : (rtext s).2.2 = false := by simpa using h
    obtain ⟨a1, a2, a3⟩ := rtext_rest s h'
    exact .inr ⟨(rtext s).1, (rtext s).2.1, by rw [← h'], a1, a2, a3⟩
theorem rflag_two (s : List UInt8) : (s.length < 1 ∧ (rflag s).2.2 = true) ∨ (1 ≤ s.length ∧ rflag s = ((s.getD 0 0).toNat == 1, s.drop 1, decide ((s.getD 0 0).toNat > 1))) := by
  by_cases h : s.length < 1
  · exact .inl ⟨h, by simp [rflag, rnum_bad s 1 h]⟩
  · refine .inr ⟨by omega, ?_⟩
    simp only [rflag, rnum_ok s 1 (show 1 ≤ s.length by omega), val_one s (show 1 ≤ s.length by omega), Bool.false_or]
theorem gP_tx (s : List UInt8) : tx13 [0, 0] s = if (gP s).2.2 = true then none else some [(gP s).1.key, (gP s).1.value] := by
  simp only [tx13, gP, List.drop_zero, Nat.not_lt_zero, if_false]
  rcases rtext_two s with h | ⟨t, r, h, _⟩
  · simp [h]
  · rcases rtext_two r with h2 | ⟨t2, r2, h2, _⟩ <;> simp [h, h2]
theorem gN_tx (s : List UInt8) : (tx13 [1, 0] s = none ∧ (gN s).2.2 = true) ∨
    (tx13 [1, 0] s = some [(gN s).1.key, (gN s).1.value] ∧ 1 ≤ s.length ∧ 5 + (gN s).1.key.length + (gN s).1.value.length ≤ s.length ∧ (gN s).1.key.length ≤ 65535 ∧ (gN s).1.value.length ≤ 65535 ∧ (gN s).1.kind = ((s.getD 0 0).toNat : Nat) ∧
      rnum (s.drop (5 + (gN s).1.key.length + (gN s).1.value.length)) 8 = ((gN s).1.n, (gN s).2.1, (gN s).2.2)) := by
  by_cases c : s.length < 1
  · exact .inl ⟨by simp [-List.drop_one, tx13, c], by simp [-List.drop_one, gN, rnum_bad s 1 c]⟩
  · have e1 := rnum_ok s 1 (by omega)
    rcases rtext_two (s.drop 1) with h | ⟨t, r, h, a1, a2, a3⟩
    · exact .inl ⟨by simp [-List.drop_one, tx13, c, h], by simp [-List.drop_one, gN, e1, h]⟩
    · rw [List.length_drop] at a2
      rcases rtext_two r with h2 | ⟨t2, r2, h2, b1, b2, b3⟩
      · exact .inl ⟨by simp [-List.drop_one, tx13, c, h, h2], by simp [-List.drop_one, gN, e1, h, h2]⟩
      · have lr : r.length = s.length - (3 + t.length) := by rw [a1, List.length_drop, List.length_drop]; omega
        have e : r2 = s.drop (5 + t.length + t2.length) := by
          rw [b1, a1, List.drop_drop, List.drop_drop]; congr 1; omega
        have g : gN s = (⟨((s.getD 0 0).toNat : Nat), t, t2, (rnum r2 8).1⟩, (rnum r2 8).2.1, (rnum r2 8).2.2) := by
          simp [-List.drop_one, gN, e1, h, h2, val_one s (show 1 ≤ s.length by omega)]
        rw [g]
        exact .inr ⟨by simp [-List.drop_one, tx13, c, h, h2], by omega, by simp only; omega, a3, b3, rfl, by rw [← e]⟩
theorem gC_tx (s : List UInt8) : (tx13 [4, 1, 1] s = none ∧ (gC s).2.2 = true) ∨
    (tx13 [4, 1, 1] s = some [(gC s).1.key, (gC s).1.before, (gC s).1.after] ∧ 4 ≤ s.length ∧ 9 + (gC s).1.key.length + (gC s).1.before.length < s.length ∧ (gC s).1.key.length ≤ 65535 ∧ (gC s).1.before.length ≤ 65535 ∧ (gC s).1.after.length ≤ 65535 ∧
      (gC s).1.seq = (val (s.take 4) : Nat) ∧ (gC s).1.had = ((s.getD (6 + (gC s).1.key.length) 0).toNat == 1) ∧ (gC s).1.has = ((s.getD (9 + (gC s).1.key.length + (gC s).1.before.length) 0).toNat == 1)) := by
  by_cases c : s.length < 4
  · exact .inl ⟨by simp [-List.drop_one, tx13, c], by simp [-List.drop_one, gC, rnum_bad s 4 c]⟩
  · have e1 := rnum_ok s 4 (by omega)
    rcases rtext_two (s.drop 4) with h | ⟨t, r, h, a1, a2, a3⟩
    · exact .inl ⟨by simp [-List.drop_one, tx13, c, h], by simp [-List.drop_one, gC, e1, h]⟩
    · rw [List.length_drop] at a2
      have lr : r.length = s.length - (6 + t.length) := by rw [a1, List.length_drop, List.length_drop]; omega
      have dr : r = s.drop (6 + t.length) := by rw [a1, List.drop_drop]; congr 1; omega
      rcases rflag_two r with ⟨c2, f⟩ | ⟨c2, f⟩
      · exact .inl ⟨by simp [-List.drop_one, tx13, c, h, c2], by simp [-List.drop_one, gC, e1, h, f]⟩
      · rcases rtext_two (r.drop 1) with h2 | ⟨t2, r2, h2, b1, b2, b3⟩
        · exact .inl ⟨by simp [-List.drop_one, tx13, c, h, h2, Nat.not_lt.2 c2], by simp [-List.drop_one, gC, e1, h, f, h2]⟩
        · rw [List.length_drop] at b2
          have lr2 : r2.length = s.length - (9 + t.length + t2.length) := by rw [b1, List.length_drop, List.length_drop]; omega
          have dr2 : r2 = s.drop (9 + t.length + t2.length) := by rw [b1, dr, List.drop_drop, List.drop_drop]; congr 1; omega
          rcases rflag_two r2 with ⟨c3, f2⟩ | ⟨c3, f2⟩
          · exact .inl ⟨by simp [-List.drop_one, tx13, c, h, h2, Nat.not_lt.2 c2, c3], by simp [-List.drop_one, gC, e1, h, f, h2, f2]⟩
          · rcases rtext_two (r2.drop 1) with h3 | ⟨t3, r3, h3, d1, d2, d3⟩
            · exact .inl ⟨by simp [-List.drop_one, tx13, c, h, h2, Nat.not_lt.2 c2, Nat.not_lt.2 c3, h3], by simp [-List.drop_one, gC, e1, h, f, h2, f2, h3]⟩
            · have i1 : r.getD 0 0 = s.getD (6 + t.length) 0 := by rw [dr]; simp [List.getD_eq_getElem?_getD]
              have i2 : r2.getD 0 0 = s.getD (9 + t.length + t2.length) 0 := by rw [dr2]; simp [List.getD_eq_getElem?_getD]
              have g : (gC s).1 = ⟨(val (s.take 4) : Nat), t, (s.getD (6 + t.length) 0).toNat == 1, t2, (s.getD (9 + t.length + t2.length) 0).toNat == 1, t3⟩ := by
                simp only [gC, e1, h, f, h2, f2, h3, i1, i2]
              rw [g]
              exact .inr ⟨by simp [-List.drop_one, tx13, c, h, h2, Nat.not_lt.2 c2, Nat.not_lt.2 c3, h3], by omega, by simp only; omega, a3, b3, d3, rfl, rfl, rfl⟩
theorem gC_of (c : Change) (q : List UInt8) (h0 : 0 ≤ c.seq ∧ c.seq < 4294967296) (h1 : c.key.length ≤ 65535) (h2 : c.before.length ≤ 65535) (h3 : c.after.length ≤ 65535) : gC (encC c ++ q) = (c, q, false) := by
  have e1 := rnum_of c.seq.toNat 4 (show c.seq.toNat < 4294967296 by omega) (tx c.key ++ (fl c.had ++ (tx c.before ++ (fl c.has ++ (tx c.after ++ q)))))
  simp only [gC, encC, List.append_assoc]
  rw [e1]
  simp only
  rw [rtext_of _ _ h1]
  simp only
  rw [rflag_of]
  simp only
  rw [rtext_of _ _ h2]
  simp only
  rw [rflag_of]
  simp only
  rw [rtext_of _ _ h3]
  simp only [Bool.or_false]
  rw [show ((c.seq.toNat : Nat) : Int) = c.seq by omega]
end Go.Ab
