/- Notes, pairs, changes, and what bytes begin with, plainly. -/
import Derived.Test.YthfjcplhjbaplaaAbP
namespace Go.Ab
set_option linter.all false
structure Note where (kind : Int) (key value : List UInt8) (n : Nat)
structure Pair where (key value : List UInt8)
structure Change where (seq : Int) (key : List UInt8) (had : Bool) (before : List UInt8) (has : Bool) (after : List UInt8)
/-- a text's bytes -/
def tx (l : List UInt8) : List UInt8 := be l.length 2 ++ l
def fl (b : Bool) : List UInt8 := [if b = true then 1 else 0]
def encN (n : Note) : List UInt8 := be n.kind.toNat 1 ++ tx n.key ++ tx n.value ++ be n.n 8
def encP (p : Pair) : List UInt8 := tx p.key ++ tx p.value
def encC (c : Change) : List UInt8 := be c.seq.toNat 4 ++ tx c.key ++ fl c.had ++ tx c.before ++ fl c.has ++ tx c.after
theorem tx_length (l : List UInt8) : (tx l).length = 2 + l.length := by simp [tx, be_length]
theorem fl_length (b : Bool) : (fl b).length = 1 := rfl
/-- what is taken is written so -/
theorem take2_be (l : List UInt8) (h : ¬(l.length < 2 ∨ l.length < 2 + val (l.take 2))) :
    be ((l.drop 2).take (val (l.take 2))).length 2 ++ (l.drop 2).take (val (l.take 2)) ++ (l.drop 2).drop (val (l.take 2)) = l := by
  have h1 : ((l.drop 2).take (val (l.take 2))).length = val (l.take 2) := by simp; omega
  rw [h1, be_val 2 (l.take 2) (by simp; omega), List.append_assoc, List.take_append_drop, List.take_append_drop]

/-- a number of n bytes, the rest, and whether it was not there -/
def rnum (s : List UInt8) (n : Nat) : Nat × List UInt8 × Bool := if s.length < n then (0, [], true) else (val (s.take n), s.drop n, false)
def rtext (s : List UInt8) : List UInt8 × List UInt8 × Bool :=
  if s.length < 2 ∨ s.length < 2 + val (s.take 2) then ([], [], true) else ((s.drop 2).take (val (s.take 2)), (s.drop 2).drop (val (s.take 2)), false)
def rflag (s : List UInt8) : Bool × List UInt8 × Bool := ((rnum s 1).1 == 1, (rnum s 1).2.1, (rnum s 1).2.2 || decide ((rnum s 1).1 > 1))

theorem rnum_le (s : List UInt8) (n : Nat) : (rnum s n).2.1.length ≤ s.length := by
  unfold rnum; split <;> simp
theorem rtext_le (s : List UInt8) : (rtext s).2.1.length ≤ s.length := by
  unfold rtext; split <;> simp <;> omega
theorem rflag_le (s : List UInt8) : (rflag s).2.1.length ≤ s.length := rnum_le s 1
theorem rnum_lt (s : List UInt8) (n : Nat) : (rnum s n).1 < 256 ^ n := by
  unfold rnum
  by_cases h : s.length < n
  · rw [if_pos h]; exact Nat.pow_pos (by decide)
  · rw [if_neg h]
    have := val_lt (s.take n)
    rwa [List.length_take, Nat.min_eq_left (by omega)] at this

theorem rnum_more (s q : List UInt8) (n : Nat) (h : (rnum s n).2.2 = false) : rnum (s ++ q) n = ((rnum s n).1, (rnum s n).2.1 ++ q, false) := by
  unfold rnum at *
  by_cases c : s.length < n
  · rw [if_pos c] at h; exact absurd h (by decide)
  · rw [if_neg c, if_neg (by rw [List.length_append]; omega), List.take_append_of_le_length (by omega), List.drop_append_of_le_length (by omega)]
theorem rtext_more (s q : List UInt8) (h : (rtext s).2.2 = false) : rtext (s ++ q) = ((rtext s).1, (rtext s).2.1 ++ q, false) := by
  unfold rtext at *
  by_cases c : s.length < 2 ∨ s.length < 2 + val (s.take 2)
  · rw [if_pos c] at h; exact absurd h (by decide)
  · rw [if_neg c]
    have e1 : (s ++ q).take 2 = s.take 2 := List.take_append_of_le_length (by omega)
    have e2 : (s ++ q).drop 2 = s.drop 2 ++ q := List.drop_append_of_le_length (by omega)
    rw [e1, e2, if_neg (by rw [List.length_append]; omega), List.take_append_of_le_length (by rw [List.length_drop]; omega), List.drop_append_of_le_length (by rw [List.length_drop]; omega)]
theorem rflag_more (s q : List UInt8) (h : (rflag s).2.2 = false) : rflag (s ++ q) = ((rflag s).1, (rflag s).2.1 ++ q, false) := by
  unfold rflag at *
  simp only [Bool.or_eq_false_iff] at h
  rw [rnum_more s q 1 h.1]
  simp only [h.2, Bool.or_false]

theorem rnum_of (n size : Nat) (h : n < 256 ^ size) (q : List UInt8) : rnum (be n size ++ q) size = (n, q, false) := by
  have h2 : (be n size).length = size := be_length _ _
  unfold rnum
  rw [if_neg (by rw [List.length_append]; omega), List.take_append_of_le_length (by omega), List.take_of_length_le (by omega), List.drop_append_of_le_length (by omega), List.drop_of_length_le (by omega), val_be, Nat.mod_eq_of_lt h]
  rfl
theorem rtext_of (t q : List UInt8) (h : t.length ≤ 65535) : rtext (tx t ++ q) = (t, q, false) := by
  have h2 : (be t.length 2).length = 2 := be_length _ _
  have e1 : (tx t ++ q).take 2 = be t.length 2 := by
    rw [tx, List.append_assoc, List.take_append_of_le_length (by omega), List.take_of_length_le (by omega)]
  have e2 : (tx t ++ q).drop 2 = t ++ q := by
    rw [tx, List.append_assoc, List.drop_append_of_le_length (by omega), List.drop_of_length_le (by omega), List.nil_append]
  have e3 : val (be t.length 2) = t.length := by rw [val_be]; omega
  have e4 : ((tx t ++ q).length) = 2 + t.length + q.length := by rw [List.length_append, tx_length]
  unfold rtext
  rw [e1, e2, e3, e4, if_neg (by omega)]
  simp
theorem rflag_of (b : Bool) (q : List UInt8) : rflag (fl b ++ q) = (b, q, false) := by
  cases b <;> rfl

theorem rnum_back (s : List UInt8) (n : Nat) (h : (rnum s n).2.2 = false) : be (rnum s n).1 n ++ (rnum s n).2.1 = s := by
  unfold rnum at *
  by_cases c : s.length < n
  · rw [if_pos c] at h; exact absurd h (by decide)
  · rw [if_neg c]
    simp only
    rw [be_val n (s.take n) (by simp; omega), List.take_append_drop]
theorem rtext_back (s : List UInt8) (h : (rtext s).2.2 = false) : tx (rtext s).1 ++ (rtext s).2.1 = s := by
  unfold rtext at *
  by_cases c : s.length < 2 ∨ s.length < 2 + val (s.take 2)
  · rw [if_pos c] at h; exact absurd h (by decide)
  · rw [if_neg c]
    exact take2_be s c
theorem rflag_back (s : List UInt8) (h : (rflag s).2.2 = false) : fl (rflag s).1 ++ (rflag s).2.1 = s := by
  unfold rflag at *
  simp only [Bool.or_eq_false_iff, decide_eq_false_iff_not] at h
  have b := rnum_back s 1 h.1
  have e : fl ((rnum s 1).1 == 1) = be (rnum s 1).1 1 := by
    have h2 : (rnum s 1).1 = 0 ∨ (rnum s 1).1 = 1 := by omega
    rcases h2 with h2 | h2 <;> rw [h2] <;> rfl
  simp only
  rw [e]
  exact b

/-- a note that bytes begin with, the rest, and whether it was not there -/
def gN (s : List UInt8) : Note × List UInt8 × Bool :=
  let a := rnum s 1; let b := rtext a.2.1; let c := rtext b.2.1; let d := rnum c.2.1 8
  (⟨(a.1 : Nat), b.1, c.1, d.1⟩, d.2.1, a.2.2 || b.2.2 || c.2.2 || d.2.2)
def gP (s : List UInt8) : Pair × List UInt8 × Bool :=
  let b := rtext s; let c := rtext b.2.1
  (⟨b.1, c.1⟩, c.2.1, b.2.2 || c.2.2)
def gC (s : List UInt8) : Change × List UInt8 × Bool :=
  let a := rnum s 4; let b := rtext a.2.1; let c := rflag b.2.1; let d := rtext c.2.1; let e := rflag d.2.1; let g := rtext e.2.1
  (⟨(a.1 : Nat), b.1, c.1, d.1, e.1, g.1⟩, g.2.1, a.2.2 || b.2.2 || c.2.2 || d.2.2 || e.2.2 || g.2.2)
theorem gN_le (s : List UInt8) : (gN s).2.1.length ≤ s.length := by
  have ha := rnum_le s 1
  have hb := rtext_le (rnum s 1).2.1
  have hc := rtext_le (rtext (rnum s 1).2.1).2.1
  have hd := rnum_le (rtext (rtext (rnum s 1).2.1).2.1).2.1 8
  simp only [gN]
  omega
theorem gP_le (s : List UInt8) : (gP s).2.1.length ≤ s.length := by
  have hb := rtext_le s
  have hc := rtext_le (rtext s).2.1
  simp only [gP]
  omega
theorem gC_le (s : List UInt8) : (gC s).2.1.length ≤ s.length := by
  have ha := rnum_le s 4
  have hb := rtext_le (rnum s 4).2.1
  have hc := rflag_le (rtext (rnum s 4).2.1).2.1
  have hd := rtext_le (rflag (rtext (rnum s 4).2.1).2.1).2.1
  have he := rflag_le (rtext (rflag (rtext (rnum s 4).2.1).2.1).2.1).2.1
  have hg := rtext_le (rflag (rtext (rflag (rtext (rnum s 4).2.1).2.1).2.1).2.1).2.1
  simp only [gC]
  omega

/-- so many things that bytes begin with, and the rest -/
def takeN {α : Type} (g : List UInt8 → α × List UInt8 × Bool) (may : α → Bool) : Nat → List UInt8 → Option (List α × List UInt8)
  | 0, s => some ([], s)
  | n + 1, s => if (g s).2.2 = true then none else if may (g s).1 = true then (takeN g may n (g s).2.1).map fun r => ((g s).1 :: r.1, r.2) else none
/-- a list of things -/
def takeL {α : Type} (g : List UInt8 → α × List UInt8 × Bool) (may : α → Bool) (s : List UInt8) : Option (List α × List UInt8) :=
  if s.length < 2 then none else takeN g may (val (s.take 2)) (s.drop 2)
end Go.Ab
