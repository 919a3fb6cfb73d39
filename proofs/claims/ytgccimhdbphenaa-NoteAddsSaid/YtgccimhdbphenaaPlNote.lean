/- What the functions of package note come to: what notes make of a value, and two notes as one. -/
import Derived.Test.YtgccimhdbphenaaFnote
import Derived.Test.YtgccimhdbphenaaPlPack
import Derived.Test.YtgccimhdbphenaaPlNoteR
namespace Go.Proofs.Ytgccimhdbphenaa.Pl
open Go.RowKit Go.Proofs.Ytgccimhdbphenaa.F Go.Proofs.YtgccimhdbphenaaW.PrintWords Go.Proofs.YtgccimhdbphenaaW.PrintLast Go.Proofs.YtgccimhdbphenaaW.PrintMore
set_option linter.unusedVariables false
set_option linter.unusedSimpArgs false

/-- a value's number -/
def number (v : ByteArray) : Nat := if v.size = 8 then val v.data.toList else 0
/-- a number as a value -/
def num8 (n : Nat) : ByteArray := B (be n 8)
/-- what one note makes of a value -/
def nstep (s : ByteArray × Bool) (n : Note) : ByteArray × Bool :=
  if n.f0 = 1 then (n.f2, true) else if n.f0 = 2 then (B [], false) else if n.f0 = 3 then (num8 ((number s.1 + n.f3.toNat) % 18446744073709551616), true) else s
/-- what notes make of it -/
def done (v : ByteArray) (has : Bool) (l : List Note) : ByteArray × Bool := l.foldl nstep (if has = true then v else B [], has)
/-- two as one -/
def both (a b : Note) : Note :=
  if b.f0 = 1 ∨ b.f0 = 2 then b else if b.f0 = 3 then (if a.f0 = 1 ∨ a.f0 = 2 then ⟨1, b.f1, (done a.f2 (a.f0 == 1) [b]).1, 0⟩ else if a.f0 = 3 then ⟨3, b.f1, b.f2, IntKind.u64.wrap (b.f3 + a.f3)⟩ else b) else ⟨a.f0, b.f1, a.f2, a.f3⟩
theorem num8_size (n : Nat) : (num8 n).size = 8 := by rw [num8, B_size, be_length]
theorem number_num8 (n : Nat) : number (num8 n) = n % 18446744073709551616 := by
  unfold number
  rw [if_pos (num8_size n), num8, B_data, val_be]
theorem number_nil : number (B []) = 0 := by
  unfold number
  rw [if_neg (by rw [B_size]; decide)]
theorem number_lt (v : ByteArray) : number v < 18446744073709551616 := by
  unfold number
  by_cases h : v.size = 8
  · rw [if_pos h]
    have := val_lt v.data.toList
    rw [data_length, h] at this
    exact this
  · rw [if_neg h]; decide

theorem number_eq (v : ByteArray) (k : Nat) (hk : 12 ≤ k) : note_Number.f k v = some ((number v : Nat) : Int) := by
  unfold note_Number.f number
  by_cases h : v.size = 8
  · have hl : v.data.toList.length = 8 := by rw [data_length]; exact h
    have e : takeR v.data.toList 8 = (((val v.data.toList : Nat) : Int), B [], 0) := by
      unfold takeR
      rw [if_pos (by decide), if_neg (by rw [hl]; decide), List.take_of_length_le (by rw [hl]; decide), List.drop_of_length_le (by rw [hl]; decide)]
    have t := take_eq v.data.toList (by omega) 8 k hk
    rw [← B_of v, e] at t
    rw [if_pos (by omega), if_pos h, t]
    rfl
  · rw [if_neg (by omega), if_neg h]
    rfl

theorem done_loop (l : List Note) (hf : ∀ n ∈ l, nfine n) (hn : l.length ≤ 9223372036854775806) (d : Nat) : ∀ (k i : Nat) (v : ByteArray) (has : Bool), i + d = l.length → d + 13 < k →
    note_Done.l0 k v has l (l.length : Int) (i : Int) = some ((l.drop i).foldl nstep (v, has)) := by
  induction d with
  | zero =>
    intro k i v has hi hk
    obtain ⟨k, rfl⟩ : ∃ m, k = m + 1 := ⟨k - 1, by omega⟩
    simp only [note_Done.l0]
    rw [if_neg (by omega), List.drop_of_length_le (by omega)]
    rfl
  | succ d ih =>
    intro k i v has hi hk
    obtain ⟨k, rfl⟩ : ∃ m, k = m + 1 := ⟨k - 1, by omega⟩
    have hlt : i < l.length := by omega
    have w4 : wrap64 ((i : Int) + 1) = ((i + 1 : Nat) : Int) := by rw [wrap64_in (by omega) (by omega)]; omega
    have hfn := hf _ (List.getElem_mem hlt)
    simp only [note_Done.l0]
    rw [if_pos (by omega), if_pos (by omega), if_pos (by omega), rdT l i hlt, w4, List.drop_eq_getElem_cons hlt, List.foldl_cons]
    generalize l[i] = n at *
    obtain ⟨h0, h1⟩ := hfn
    unfold nstep
    by_cases c1 : n.f0 = 1
    · rw [if_pos c1, if_pos c1, ih k (i + 1) _ _ (by omega) (by omega)]
      rfl
    · rw [if_neg c1, if_neg c1]
      by_cases c2 : n.f0 = 2
      · rw [if_pos c2, if_pos c2, ih k (i + 1) _ _ (by omega) (by omega)]
        rfl
      · rw [if_neg c2, if_neg c2]
        by_cases c3 : n.f0 = 3
        · have e : IntKind.u64.wrap (((number v : Nat) : Int) + n.f3) = (((number v + n.f3.toNat) % 18446744073709551616 : Nat) : Int) := by
            rw [u64_wrap]
            omega
          have r : numR ((number v + n.f3.toNat) % 18446744073709551616) 8 = (num8 ((number v + n.f3.toNat) % 18446744073709551616), 0) :=
            if_pos ⟨by decide, by decide, by show _ < 18446744073709551616; omega⟩
          rw [if_pos c3, if_pos c3, number_eq v k (by omega), Option.bind_some, e, num_eq _ (by omega) 8 (by omega) k (by omega), Option.bind_some, r, ih k (i + 1) _ _ (by omega) (by omega)]
          rfl
        · rw [if_neg c3, if_neg c3, ih k (i + 1) _ _ (by omega) (by omega)]
          rfl

theorem done_eq (v : ByteArray) (has : Bool) (l : List Note) (hf : ∀ n ∈ l, nfine n) (hn : l.length ≤ 9223372036854775806) (k : Nat) (hk : l.length + 15 ≤ k) : note_Done.f k v has l = some (done v has l) := by
  obtain ⟨k, rfl⟩ : ∃ m, k = m + 1 := ⟨k - 1, by omega⟩
  unfold note_Done.f done
  simp only [note_Done.j0]
  have h := fun v => done_loop l hf hn l.length k 0 v has (by omega) (by omega)
  simp only [List.drop_zero] at h
  cases has with
  | true => rw [if_pos rfl, if_pos rfl]; exact h v
  | false => rw [if_neg (by decide), if_neg (by decide)]; exact h (B [])

theorem both_eq (a b : Note) (hb : nfine b) (k : Nat) (hk : 18 ≤ k) :
    note_Both.f k a.f0 a.f1 a.f2 a.f3 b.f0 b.f1 b.f2 b.f3 = some ((both a b).f0, (both a b).f1, (both a b).f2, (both a b).f3) := by
  obtain ⟨k, rfl⟩ : ∃ m, k = m + 2 := ⟨k - 2, by omega⟩
  have hd := done_eq a.f2 (a.f0 == 1) [b] (by intro n hn; rw [List.mem_singleton] at hn; subst hn; exact hb) (by simp) k (by simp; omega)
  unfold note_Both.f both
  simp only [note_Both.j0, note_Both.j1]
  have eb : (⟨b.f0, b.f1, b.f2, b.f3⟩ : Note) = b := rfl
  rw [eb, hd]
  by_cases c1 : b.f0 = 1
  · simp [c1]
  · by_cases c2 : b.f0 = 2
    · simp [c2]
    · by_cases c3 : b.f0 = 3
      · by_cases d1 : a.f0 = 1
        · simp [c3, d1]
        · by_cases d2 : a.f0 = 2
          · simp [c3, d2]
          · by_cases d3 : a.f0 = 3
            · simp [c3, d3]
            · simp [c3, d1, d2, d3]
      · simp [c1, c2, c3]

theorem done_append (v : ByteArray) (has : Bool) (l m : List Note) : done v has (l ++ m) = m.foldl nstep (done v has l) := by
  unfold done
  rw [List.foldl_append]

/-- what the pair holds where there is nothing -/
def Plain (s : ByteArray × Bool) : Prop := s.2 = false → s.1 = B []

theorem step_both (s : ByteArray × Bool) (a b : Note) (ha : nfine a) (hb : nfine b) : nstep (nstep s a) b = nstep s (both a b) := by
  obtain ⟨a0, a1⟩ := ha
  obtain ⟨b0, b1⟩ := hb
  unfold both
  by_cases c1 : b.f0 = 1
  · rw [if_pos (Or.inl c1)]; simp [nstep, c1]
  · by_cases c2 : b.f0 = 2
    · rw [if_pos (Or.inr c2)]; simp [nstep, c2]
    · by_cases c3 : b.f0 = 3
      · rw [if_neg (by omega), if_pos c3]
        by_cases d1 : a.f0 = 1
        · rw [if_pos (Or.inl d1)]
          simp [nstep, done, c3, d1]
        · by_cases d2 : a.f0 = 2
          · rw [if_pos (Or.inr d2)]
            simp [nstep, done, c3, d2]
          · by_cases d3 : a.f0 = 3
            · rw [if_neg (by omega), if_pos d3]
              have e : IntKind.u64.wrap (b.f3 + a.f3) = (((b.f3.toNat + a.f3.toNat) % 18446744073709551616 : Nat) : Int) := by
                rw [u64_wrap]
                omega
              have hn := number_lt s.1
              simp only [nstep, c3, d3, e]
              simp only [show ¬((3 : Int) = 1) by decide, show ¬((3 : Int) = 2) by decide, if_false, if_true, number_num8, Int.toNat_natCast]
              congr 2
              omega
            · rw [if_neg (by omega), if_neg d3]
              simp [nstep, c3, d1, d2, d3]
      · rw [if_neg (by omega), if_neg c3]
        simp [nstep, c1, c2, c3]

theorem both_fine (a b : Note) (ha : nfine a) (hb : nfine b) : nfine (both a b) := by
  unfold both nfine at *
  by_cases c1 : b.f0 = 1 ∨ b.f0 = 2
  · rw [if_pos c1]; exact hb
  · rw [if_neg c1]
    by_cases c3 : b.f0 = 3
    · rw [if_pos c3]
      by_cases d1 : a.f0 = 1 ∨ a.f0 = 2
      · rw [if_pos d1]; exact ⟨Int.le_refl _, by show (0 : Int) < 18446744073709551616; decide⟩
      · rw [if_neg d1]
        by_cases d3 : a.f0 = 3
        · rw [if_pos d3]
          simp only [u64_wrap]
          omega
        · rw [if_neg d3]; exact hb
    · rw [if_neg c3]; exact ha

theorem both_key (a b : Note) : (both a b).f1 = b.f1 := by
  unfold both
  repeat' split
  all_goals rfl

theorem both_right (a b : Note) (ha : nright a = true) (hb : nright b = true) : nright (both a b) = true := by
  unfold nright at *
  rw [decide_eq_true_iff] at *
  obtain ⟨b1, b2, b3⟩ := hb
  obtain ⟨a1, a2, a3⟩ := ha
  unfold both
  by_cases c1 : b.f0 = 1 ∨ b.f0 = 2
  · rw [if_pos c1]; exact ⟨b1, b2, b3⟩
  · have c3 : b.f0 = 3 := by omega
    rw [if_neg c1, if_pos c3]
    by_cases d1 : a.f0 = 1 ∨ a.f0 = 2
    · rw [if_pos d1]
      refine ⟨b1, ?_, Or.inl ⟨rfl, rfl⟩⟩
      simp [done, nstep, c3, num8_size]
    · have d3 : a.f0 = 3 := by omega
      have e : b.f2 = B [] := by
        rcases b3 with h | h | h
        · omega
        · omega
        · exact h.2
      rw [if_neg d1, if_pos d3]
      exact ⟨b1, b2, Or.inr (Or.inr ⟨rfl, e⟩)⟩
end Go.Proofs.Ytgccimhdbphenaa.Pl
