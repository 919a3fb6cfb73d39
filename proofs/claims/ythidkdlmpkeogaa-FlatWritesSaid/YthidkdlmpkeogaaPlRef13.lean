/- What the document's answer for package flat comes to. -/
import Derived.Test.YthidkdlmpkeogaaFref13x1
import Derived.Test.YthidkdlmpkeogaaFref13x0
import Derived.Test.YthidkdlmpkeogaaFref13x0
import Derived.Test.YthidkdlmpkeogaaFref13x1
import Derived.Test.YthidkdlmpkeogaaFref13x2
import Derived.Test.YthidkdlmpkeogaaFref10
import Derived.Test.YthidkdlmpkeogaaFref09
import Derived.Test.YthidkdlmpkeogaaFref03
import Derived.Test.YthidkdlmpkeogaaPlRef01A
import Derived.Test.YthidkdlmpkeogaaPlFlatW
namespace Go.Proofs.Ythidkdlmpkeogaa.Pl
open Go.RowKit Go.Proofs.Ythidkdlmpkeogaa.F Go.Proofs.YthidkdlmpkeogaaW.PrintWords Go.Proofs.YthidkdlmpkeogaaW.PrintLast Go.Proofs.YthidkdlmpkeogaaW.PrintMore
set_option linter.unusedVariables false
set_option linter.unusedSimpArgs false

theorem num13 (n size : Nat) (h1 : 1 ≤ size) (h8 : size ≤ 8) (hn : n < 256 ^ size) (k : Nat) (hk : 12 ≤ k) : weirkeeperref13_num.f k (n : Int) (size : Int) = some (B (be n size)) := by
  have hn8 : n < 18446744073709551616 := Nat.lt_of_lt_of_le hn (Nat.pow_le_pow_right (n := 256) (by decide) h8)
  have e : numR n (size : Int) = (B (be n size), 0) := if_pos ⟨by omega, by omega, by rw [Int.toNat_natCast]; exact hn⟩
  unfold weirkeeperref13_num.f
  rw [rnum_eq n hn8 _ k hk, Option.bind_some, e]
theorem text13 (s : ByteArray) (h : s.size ≤ 65535) : weirkeeperref13_text.f s = some (B (tx (bl s))) := by
  have e : textR (bl s) = (B (be (bl s).length 2 ++ bl s), 0) := if_pos (by rw [bl_length]; exact h)
  have r := rtext_eq (bl s)
  rw [bl_B, e] at r
  unfold weirkeeperref13_text.f
  rw [r]
  rfl
theorem flag13 (b : Bool) : weirkeeperref13_flag.f b = some (B (fl b)) := by cases b <;> rfl

theorem note13 (n : Note) (h : nright n = true) (hf : nfine n) (k : Nat) (hk : 12 ≤ k) : weirkeeperref13_Note.f k n.f0 n.f1 n.f2 n.f3 = some (B (encN n)) := by
  obtain ⟨h0, h1, h2, h3⟩ := nright_kind n h
  obtain ⟨f0, f1⟩ := hf
  have e0 : IntKind.u64.wrap n.f0 = ((n.f0.toNat : Nat) : Int) := by rw [u64_in (by omega) (by omega)]; exact h0
  have e3 : n.f3 = ((n.f3.toNat : Nat) : Int) := by omega
  have p := num13 n.f0.toNat 1 (by decide) (by decide) (by omega) k hk
  have q := num13 n.f3.toNat 8 (by decide) (by decide) (by show _ < 18446744073709551616; omega) k hk
  rw [← e3] at q
  have l1 := tx_length (bl n.f1)
  have l2 := tx_length (bl n.f2)
  rw [bl_length] at l1 l2
  unfold weirkeeperref13_Note.f
  rw [e0]
  change (weirkeeperref13_num.f k ((n.f0.toNat : Nat) : Int) ((1 : Nat) : Int)).bind _ = _
  rw [p, Option.bind_some, text13 n.f1 (by omega), Option.bind_some, if_pos (by rw [B_size, B_size, be_length]; omega), text13 n.f2 (by omega), Option.bind_some, B_append, if_pos (by rw [B_size, B_size, List.length_append, be_length]; omega)]
  change (weirkeeperref13_num.f k n.f3 ((8 : Nat) : Int)).bind _ = _
  rw [q, Option.bind_some, B_append, if_pos (by rw [B_size, B_size, List.length_append, List.length_append, be_length, be_length]; omega), B_append]
  rfl
theorem pair13 (p : Pair) (h : pright p = true) : weirkeeperref13_Pair.f p.f0 p.f1 = some (B (encP p)) := by
  unfold pright at h
  rw [decide_eq_true_iff] at h
  have l1 := tx_length (bl p.f0)
  have l2 := tx_length (bl p.f1)
  rw [bl_length] at l1 l2
  unfold weirkeeperref13_Pair.f
  rw [text13 p.f0 (by omega), Option.bind_some, text13 p.f1 (by omega), Option.bind_some, if_pos (by rw [B_size, B_size]; omega), B_append]
  rfl
theorem change13 (c : Change) (h : cmay c = true) (k : Nat) (hk : 12 ≤ k) : weirkeeperref13_Change.f k c.f0 c.f1 c.f2 c.f3 c.f4 c.f5 = some (B (encC c)) := by
  unfold cmay at h
  rw [decide_eq_true_iff] at h
  obtain ⟨⟨s1, s3, s5⟩, ⟨n1, n2⟩, -⟩ := h
  have e0 : IntKind.u64.wrap c.f0 = ((c.f0.toNat : Nat) : Int) := by rw [u64_in (by omega) (by omega)]; omega
  have l1 := tx_length (bl c.f1)
  have l3 := tx_length (bl c.f3)
  have l5 := tx_length (bl c.f5)
  have lf := fl_length c.f2
  have lg := fl_length c.f4
  rw [bl_length] at l1 l3 l5
  have p := num13 c.f0.toNat 4 (by decide) (by decide) (by show _ < 4294967296; omega) k hk
  unfold weirkeeperref13_Change.f
  rw [e0]
  change (weirkeeperref13_num.f k ((c.f0.toNat : Nat) : Int) ((4 : Nat) : Int)).bind _ = _
  rw [p, Option.bind_some, text13 c.f1 (by omega), Option.bind_some, if_pos (by rw [B_size, B_size, be_length]; omega), B_append,
    flag13, Option.bind_some, if_pos (by simp only [B_size, List.length_append, be_length]; omega), B_append,
    text13 c.f3 (by omega), Option.bind_some, if_pos (by simp only [B_size, List.length_append, be_length]; omega), B_append,
    flag13, Option.bind_some, if_pos (by simp only [B_size, List.length_append, be_length]; omega), B_append,
    text13 c.f5 (by omega), Option.bind_some, if_pos (by simp only [B_size, List.length_append, be_length]; omega), B_append]
  rfl

theorem right09 (n : Note) : weirkeeperref09_Right.f n.f0 n.f1 n.f2 n.f3 = some (nright n) := by
  unfold weirkeeperref09_Right.f nright
  have e : (n.f2.toList == ([] : List UInt8)) = decide (n.f2 = B []) := by
    rw [Bool.eq_iff_iff, beq_iff_eq, decide_eq_true_iff]
    exact nil_of _
  rw [e]
  simp only [nil_of]
  by_cases h1 : (n.f1.size : Int) > 16
  · rw [if_pos h1, decide_eq_false (by omega)]
  · rw [if_neg h1]
    have g1 : n.f1.size ≤ 16 := by omega
    by_cases c1 : n.f0 = 1
    · rw [if_pos c1]
      by_cases h2 : (n.f2.size : Int) ≤ 32
      · have g2 : n.f2.size ≤ 32 := by omega
        rw [if_pos h2]
        simp [c1, g1, g2, Bool.beq_eq_decide_eq]
      · rw [if_neg h2, decide_eq_false (by omega)]
    · rw [if_neg c1]
      have z : (B []).size = 0 := rfl
      by_cases c2 : n.f0 = 2
      · rw [if_pos c2]
        by_cases h2 : n.f2 = B []
        · rw [if_pos h2]; simp [c2, g1, h2, z, Bool.beq_eq_decide_eq]
        · rw [if_neg h2]; simp [c2, h2]
      · rw [if_neg c2]
        by_cases c3 : n.f0 = 3
        · rw [if_pos c3]
          by_cases h2 : n.f2 = B []
          · simp [c3, g1, h2, z]
          · simp [c3, h2]
        · rw [if_neg c3]; simp [c1, c2, c3]
theorem all09_loop (l : List Note) (hn : l.length ≤ 9223372036854775806) (d : Nat) : ∀ (k i : Nat), i + d = l.length → d < k → weirkeeperref09_All.l0 k l (i : Int) = some (decide (∀ x ∈ l.drop i, nright x = true)) := by
  induction d with
  | zero =>
    intro k i hi hk
    obtain ⟨k, rfl⟩ : ∃ m, k = m + 1 := ⟨k - 1, by omega⟩
    simp only [weirkeeperref09_All.l0]
    rw [if_neg (by omega), List.drop_of_length_le (by omega)]
    simp
  | succ d ih =>
    intro k i hi hk
    obtain ⟨k, rfl⟩ : ∃ m, k = m + 1 := ⟨k - 1, by omega⟩
    have hlt : i < l.length := by omega
    have w4 : wrap64 ((i : Int) + 1) = ((i + 1 : Nat) : Int) := by rw [wrap64_in (by omega) (by omega)]; omega
    simp only [weirkeeperref09_All.l0]
    rw [if_pos (by omega), if_pos (by omega), rdT l i hlt, right09, Option.bind_some, w4, List.drop_eq_getElem_cons hlt]
    by_cases c : nright l[i] = true
    · rw [if_pos c, ih k (i + 1) (by omega) (by omega)]
      congr 1
      rw [decide_eq_decide]
      constructor
      · intro h s hs
        rcases List.mem_cons.1 hs with rfl | hs
        · exact c
        · exact h s hs
      · exact fun h s hs => h s (List.mem_cons_of_mem _ hs)
    · rw [if_neg c, decide_eq_false fun hh => c (hh _ (List.mem_cons_self ..))]

/-- what the document's answer says of a list -/
def okR (r : ByteArray × Int) : ByteArray × Bool := (r.1, decide (r.2 = 0))

theorem notes13_loop (l : List Note) (hf : ∀ x ∈ l, nfine x) (ha : ∀ x ∈ l, nright x = true) (hn : l.length ≤ 30) (d : Nat) : ∀ (k i : Nat) (s : List UInt8), i + d = l.length → d + 13 ≤ k → s.length + 200 * d ≤ 1000000000 →
    weirkeeperref13_Notes.l0 k l (B s) (i : Int) = some (B (s ++ (l.drop i).flatMap encN), true) := by
  induction d with
  | zero =>
    intro k i s hi hk hs
    obtain ⟨k, rfl⟩ : ∃ m, k = m + 1 := ⟨k - 1, by omega⟩
    simp only [weirkeeperref13_Notes.l0]
    rw [if_neg (by omega), List.drop_of_length_le (by omega)]
    simp
  | succ d ih =>
    intro k i s hi hk hs
    obtain ⟨k, rfl⟩ : ∃ m, k = m + 1 := ⟨k - 1, by omega⟩
    have hlt : i < l.length := by omega
    have hm := List.getElem_mem hlt
    have hE := encN_le _ (ha _ hm)
    have w4 : wrap64 ((i : Int) + 1) = ((i + 1 : Nat) : Int) := by rw [wrap64_in (by omega) (by omega)]; omega
    simp only [weirkeeperref13_Notes.l0]
    rw [if_pos (by omega), if_pos (by omega), rdT l i hlt, note13 _ (ha _ hm) (hf _ hm) k (by omega), Option.bind_some, if_pos (by rw [B_size, B_size]; omega), B_append, w4, ih k (i + 1) _ (by omega) (by omega) (by rw [List.length_append]; omega),
      List.drop_eq_getElem_cons hlt, List.flatMap_cons, List.append_assoc]
theorem notes13 (l : List Note) (hf : ∀ x ∈ l, nfine x) (hn : l.length ≤ 30) (k : Nat) (hk : 100 ≤ k) : weirkeeperref13_Notes.f k l = some (okR (listR nright encN l)) := by
  obtain ⟨k, rfl⟩ : ∃ m, k = m + 1 := ⟨k - 1, by omega⟩
  unfold weirkeeperref13_Notes.f weirkeeperref09_All.f listR
  have al := all09_loop l (by omega) l.length (k + 1) 0 (by omega) (by omega)
  rw [show ((0 : Nat) : Int) = 0 from rfl, List.drop_zero] at al
  rw [u64_in (by omega) (by omega)]
  change (weirkeeperref13_num.f (k + 1) ((l.length : Nat) : Int) ((2 : Nat) : Int)).bind _ = _
  rw [num13 l.length 2 (by decide) (by decide) (by show _ < 65536; omega) _ (by omega), Option.bind_some, al, Option.bind_some]
  simp only [weirkeeperref13_Notes.j0]
  by_cases h : ∀ x ∈ l, nright x = true
  · have lo := notes13_loop l hf h hn l.length k 0 (be l.length 2) (by omega) (by omega) (by rw [be_length]; omega)
    rw [show ((0 : Nat) : Int) = 0 from rfl, List.drop_zero] at lo
    rw [if_pos (decide_eq_true h), if_neg (by rw [decide_eq_false (by omega)]; decide), lo, if_pos ⟨by omega, h⟩]
    rfl
  · rw [if_neg (by rw [decide_eq_false h]; decide), if_pos trivial, if_neg fun hh => h hh.2]
    rfl

theorem right10 (p : Pair) (k : Nat) (hk : 4 ≤ k) : weirkeeperref10_Right.f k [p] = some (pright p) := by
  obtain ⟨k, rfl⟩ : ∃ m, k = m + 3 := ⟨k - 3, by omega⟩
  unfold weirkeeperref10_Right.f pright
  have r0 : rd_T50 [p] 0 = p := rfl
  have w1 : wrap64 (0 + 1) = 1 := wrap64_in (by omega) (by omega)
  simp only [weirkeeperref10_Right.l0, weirkeeperref10_Right.j1, r0, w1, List.length_singleton]
  rw [if_pos (by decide), if_pos (by decide)]
  by_cases h1 : (p.f0.size : Int) > 16
  · rw [if_pos h1, if_pos trivial, decide_eq_false (by omega)]
  · rw [if_neg h1]
    by_cases h2 : (p.f1.size : Int) > 32
    · rw [if_pos (decide_eq_true h2), decide_eq_false (by omega)]
    · rw [if_neg (by rw [decide_eq_false h2]; decide), if_neg (by decide), if_neg (by decide), decide_eq_true (by omega)]

theorem pairs13_loop (l : List Pair) (hn : l.length ≤ 30) (d : Nat) : ∀ (k i : Nat) (s : List UInt8), i + d = l.length → d + 13 ≤ k → s.length + 200 * d ≤ 1000000000 →
    weirkeeperref13_Pairs.l0 k l (B s) (i : Int) = some (if ∀ x ∈ l.drop i, pright x = true then (B (s ++ (l.drop i).flatMap encP), true) else (B [], false)) := by
  induction d with
  | zero =>
    intro k i s hi hk hs
    obtain ⟨k, rfl⟩ : ∃ m, k = m + 1 := ⟨k - 1, by omega⟩
    simp only [weirkeeperref13_Pairs.l0]
    rw [if_neg (by omega), List.drop_of_length_le (by omega), if_pos (by simp), decide_eq_true (by omega)]
    simp
  | succ d ih =>
    intro k i s hi hk hs
    obtain ⟨k, rfl⟩ : ∃ m, k = m + 1 := ⟨k - 1, by omega⟩
    have hlt : i < l.length := by omega
    have w4 : wrap64 ((i : Int) + 1) = ((i + 1 : Nat) : Int) := by rw [wrap64_in (by omega) (by omega)]; omega
    have tk : (l.take (i + 1)).drop i = [l[i]] := by
      rw [List.take_succ_eq_append_getElem hlt, List.drop_append_of_le_length (by rw [List.length_take]; omega), List.drop_of_length_le (by rw [List.length_take]; omega), List.nil_append]
    simp only [weirkeeperref13_Pairs.l0]
    rw [if_pos (by omega), if_pos (by omega), w4, if_pos (by omega), if_pos (by omega), Int.toNat_natCast, Int.toNat_natCast, tk, right10 _ k (by omega), Option.bind_some, rdP l i hlt, List.drop_eq_getElem_cons hlt]
    by_cases h : pright l[i] = true
    · have hE := encP_le _ h
      rw [if_pos h, pair13 _ h, Option.bind_some, if_pos (by rw [B_size, B_size]; omega), B_append, ih k (i + 1) _ (by omega) (by omega) (by rw [List.length_append]; omega)]
      congr 1
      by_cases ha : ∀ x ∈ l.drop (i + 1), pright x = true
      · rw [if_pos ha, if_pos (by intro x hx; rcases List.mem_cons.1 hx with rfl | hx; exact h; exact ha x hx), List.flatMap_cons, List.append_assoc]
      · rw [if_neg ha, if_neg (fun hh => ha fun x hx => hh x (List.mem_cons_of_mem _ hx))]
    · rw [if_neg h, if_neg (fun hh => h (hh _ (List.mem_cons_self ..)))]
      rfl
theorem pairs13 (l : List Pair) (hn : l.length ≤ 30) (k : Nat) (hk : 100 ≤ k) : weirkeeperref13_Pairs.f k l = some (okR (listR pright encP l)) := by
  unfold weirkeeperref13_Pairs.f listR
  rw [u64_in (by omega) (by omega)]
  change (weirkeeperref13_num.f k ((l.length : Nat) : Int) ((2 : Nat) : Int)).bind _ = _
  have lo := pairs13_loop l hn l.length k 0 (be l.length 2) (by omega) (by omega) (by rw [be_length]; omega)
  rw [show ((0 : Nat) : Int) = 0 from rfl, List.drop_zero] at lo
  rw [num13 l.length 2 (by decide) (by decide) (by show _ < 65536; omega) _ (by omega), Option.bind_some, lo]
  by_cases h : ∀ x ∈ l, pright x = true
  · rw [if_pos h, if_pos ⟨by omega, h⟩]; rfl
  · rw [if_neg h, if_neg fun hh => h hh.2]; rfl

theorem may13 (c : Change) (k : Nat) (hk : 2 ≤ k) : weirkeeperref13_May.f k c.f0 c.f1 c.f2 c.f3 c.f4 c.f5 = some (cmay c) := by
  obtain ⟨k, rfl⟩ : ∃ m, k = m + 1 := ⟨k - 1, by omega⟩
  have e : weirkeeperref13_May.f (k + 1) c.f0 c.f1 c.f2 c.f3 c.f4 c.f5 = weirkeeperref13_May.j0 (k + 1) (decide (¬((1 ≤ c.f0 ∧ c.f0 ≤ 2147483647) ∧ c.f1.size ≤ 16 ∧ c.f3.size ≤ 32 ∧ c.f5.size ≤ 32))) c.f0 c.f1 c.f2 c.f3 c.f4 c.f5 := by
    unfold weirkeeperref13_May.f
    by_cases h1 : c.f0 < 1
    · rw [if_pos h1, decide_eq_true (by omega)]
    rw [if_neg h1]
    by_cases h2 : c.f0 > 2147483647
    · rw [if_pos h2, decide_eq_true (by omega)]
    rw [if_neg h2]
    by_cases h3 : (c.f1.size : Int) > 16
    · rw [if_pos h3, decide_eq_true (by omega)]
    rw [if_neg h3]
    by_cases h4 : (c.f3.size : Int) > 32
    · rw [if_pos h4, decide_eq_true (by omega)]
    rw [if_neg h4]
    congr 1
    rw [decide_eq_decide]
    omega
  rw [e]
  simp only [weirkeeperref13_May.j0, nil_of]
  unfold cmay
  by_cases h : (1 ≤ c.f0 ∧ c.f0 ≤ 2147483647) ∧ c.f1.size ≤ 16 ∧ c.f3.size ≤ 32 ∧ c.f5.size ≤ 32
  · rw [if_neg (by rw [decide_eq_false (fun hh => hh h)]; decide)]
    obtain ⟨⟨n1, n2⟩, s1, s3, s5⟩ := h
    simp only [n1, n2, s1, s3, s5, and_true, true_and]
    cases c.f2 <;> cases c.f4 <;> by_cases e3 : c.f3 = B [] <;> by_cases e5 : c.f5 = B [] <;> simp [e3, e5]
  · rw [if_pos (decide_eq_true h), decide_eq_false fun hh => h ⟨hh.2.1, hh.1⟩]

theorem changes13_loop (l : List Change) (hn : l.length ≤ 30) (d : Nat) : ∀ (k i : Nat) (s : List UInt8), i + d = l.length → d + 13 ≤ k → s.length + 200 * d ≤ 1000000000 →
    weirkeeperref13_Changes.l0 k l (B s) (i : Int) = some (if ∀ x ∈ l.drop i, cmay x = true then (B (s ++ (l.drop i).flatMap encC), true) else (B [], false)) := by
  induction d with
  | zero =>
    intro k i s hi hk hs
    obtain ⟨k, rfl⟩ : ∃ m, k = m + 1 := ⟨k - 1, by omega⟩
    simp only [weirkeeperref13_Changes.l0]
    rw [if_neg (by omega), List.drop_of_length_le (by omega), if_pos (by simp), decide_eq_true (by omega)]
    simp
  | succ d ih =>
    intro k i s hi hk hs
    obtain ⟨k, rfl⟩ : ∃ m, k = m + 1 := ⟨k - 1, by omega⟩
    have hlt : i < l.length := by omega
    have w4 : wrap64 ((i : Int) + 1) = ((i + 1 : Nat) : Int) := by rw [wrap64_in (by omega) (by omega)]; omega
    simp only [weirkeeperref13_Changes.l0]
    rw [if_pos (by omega), if_pos (by omega), rdC l i hlt, may13 _ k (by omega), Option.bind_some, w4, List.drop_eq_getElem_cons hlt]
    by_cases h : cmay l[i] = true
    · have hE := encC_le _ h
      rw [if_pos h, change13 _ h k (by omega), Option.bind_some, if_pos (by rw [B_size, B_size]; omega), B_append, ih k (i + 1) _ (by omega) (by omega) (by rw [List.length_append]; omega)]
      congr 1
      by_cases ha : ∀ x ∈ l.drop (i + 1), cmay x = true
      · rw [if_pos ha, if_pos (by intro x hx; rcases List.mem_cons.1 hx with rfl | hx; exact h; exact ha x hx), List.flatMap_cons, List.append_assoc]
      · rw [if_neg ha, if_neg (fun hh => ha fun x hx => hh x (List.mem_cons_of_mem _ hx))]
    · rw [if_neg h, if_neg (fun hh => h (hh _ (List.mem_cons_self ..)))]
      rfl
theorem changes13 (l : List Change) (hn : l.length ≤ 30) (k : Nat) (hk : 100 ≤ k) : weirkeeperref13_Changes.f k l = some (okR (listR cmay encC l)) := by
  unfold weirkeeperref13_Changes.f listR
  rw [u64_in (by omega) (by omega)]
  change (weirkeeperref13_num.f k ((l.length : Nat) : Int) ((2 : Nat) : Int)).bind _ = _
  have lo := changes13_loop l hn l.length k 0 (be l.length 2) (by omega) (by omega) (by rw [be_length]; omega)
  rw [show ((0 : Nat) : Int) = 0 from rfl, List.drop_zero] at lo
  rw [num13 l.length 2 (by decide) (by decide) (by show _ < 65536; omega) _ (by omega), Option.bind_some, lo]
  by_cases h : ∀ x ∈ l, cmay x = true
  · rw [if_pos h, if_pos ⟨by omega, h⟩]; rfl
  · rw [if_neg h, if_neg fun hh => h hh.2]; rfl

theorem right03 (lo hi : ByteArray) (op : Bool) (k : Nat) (hk : 1 ≤ k) : weirkeeperref03_Right.f k lo hi op = some (rright lo hi op) := by
  obtain ⟨k, rfl⟩ : ∃ m, k = m + 1 := ⟨k - 1, by omega⟩
  unfold weirkeeperref03_Right.f rright
  have e : ((hi.size : Int) == 0) = decide (hi = B []) := by
    rw [Bool.eq_iff_iff, beq_iff_eq, decide_eq_true_iff]
    constructor
    · intro h
      have : (bl hi) = [] := List.eq_nil_of_length_eq_zero (by rw [bl_length]; omega)
      rw [← bl_B hi, this]
    · intro h
      rw [h]
      rfl
  simp only [weirkeeperref03_Right.j0, e]
  by_cases h1 : (lo.size : Int) > 16
  · rw [if_pos h1, if_pos trivial, decide_eq_false (by omega)]
  · rw [if_neg h1]
    by_cases h2 : (hi.size : Int) > 17
    · rw [if_pos (decide_eq_true h2), decide_eq_false (by omega)]
    · have g1 : lo.size ≤ 16 := by omega
      have g2 : hi.size ≤ 17 := by omega
      rw [if_neg (by rw [decide_eq_false h2]; decide)]
      cases op <;> simp [g1, g2]
theorem range13 (lo hi : ByteArray) (op : Bool) (k : Nat) (hk : 12 ≤ k) : weirkeeperref13_Range.f k lo hi op = some (okR (rangeR lo hi op)) := by
  unfold weirkeeperref13_Range.f rangeR
  rw [right03 lo hi op k (by omega), Option.bind_some]
  by_cases h : rright lo hi op = true
  · have h' := h
    unfold rright at h
    rw [decide_eq_true_iff] at h
    have l1 := tx_length (bl lo)
    have l2 := tx_length (bl hi)
    have lf := fl_length op
    rw [bl_length] at l1 l2
    rw [if_pos h', if_pos h', text13 lo (by omega), Option.bind_some, text13 hi (by omega), Option.bind_some, if_pos (by rw [B_size, B_size]; omega), B_append, flag13, Option.bind_some, if_pos (by simp only [B_size, List.length_append]; omega), B_append]
    rfl
  · rw [if_neg h, if_neg h]; rfl
end Go.Proofs.Ythidkdlmpkeogaa.Pl
