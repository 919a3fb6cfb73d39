/- What the reading functions of package flat come to. -/
import Derived.Test.YthidkdlmpkeogaaFflatx2
import Derived.Test.YthidkdlmpkeogaaPlFlatW
namespace Go.Proofs.Ythidkdlmpkeogaa.Pl
open Go.RowKit Go.Proofs.Ythidkdlmpkeogaa.F Go.Proofs.YthidkdlmpkeogaaW.PrintWords Go.Proofs.YthidkdlmpkeogaaW.PrintLast Go.Proofs.YthidkdlmpkeogaaW.PrintMore
set_option linter.unusedVariables false
set_option linter.unusedSimpArgs false

/-- a number of n bytes, the rest, and whether it was not there -/
def rnum (s : List UInt8) (n : Nat) : Nat × List UInt8 × Bool := if s.length < n then (0, [], true) else (val (s.take n), s.drop n, false)
def rtext (s : List UInt8) : List UInt8 × List UInt8 × Bool :=
  if s.length < 2 ∨ s.length < 2 + val (s.take 2) then ([], [], true) else ((s.drop 2).take (val (s.take 2)), (s.drop 2).drop (val (s.take 2)), false)
def rflag (s : List UInt8) : Bool × List UInt8 × Bool := ((rnum s 1).1 == 1, (rnum s 1).2.1, (rnum s 1).2.2 || decide ((rnum s 1).1 > 1))

theorem rnum_le (s : List UInt8) (n : Nat) : (rnum s n).2.1.length ≤ s.length := by
  unfold rnum; split <;> simp
theorem rtext_le (s : List UInt8) : (rtext s).2.1.length ≤ s.length := by
  unfold rtext; split <;> simp <;> omega
theorem rflag_le (s : List UInt8) : (rflag s).2.1.length ≤ s.length := rnum_le s 1
theorem rnum_lt (s : List UInt8) (n : Nat) : (rnum s n).1 < 256 ^ n := by
  unfold rnum
  by_cases h : s.length < n
  · rw [if_pos h]; exact Nat.pow_pos (by decide)
  · rw [if_neg h]
    have := val_lt (s.take n)
    rwa [List.length_take, Nat.min_eq_left (by omega)] at this

theorem rnum_more (s q : List UInt8) (n : Nat) (h : (rnum s n).2.2 = false) : rnum (s ++ q) n = ((rnum s n).1, (rnum s n).2.1 ++ q, false) := by
  unfold rnum at *
  by_cases c : s.length < n
  · rw [if_pos c] at h; exact absurd h (by decide)
  · rw [if_neg c, if_neg (by rw [List.length_append]; omega), List.take_append_of_le_length (by omega), List.drop_append_of_le_length (by omega)]
theorem rtext_more (s q : List UInt8) (h : (rtext s).2.2 = false) : rtext (s ++ q) = ((rtext s).1, (rtext s).2.1 ++ q, false) := by
  unfold rtext at *
  by_cases c : s.length < 2 ∨ s.length < 2 + val (s.take 2)
  · rw [if_pos c] at h; exact absurd h (by decide)
  · rw [if_neg c]
    have e1 : (s ++ q).take 2 = s.take 2 := List.take_append_of_le_length (by omega)
    have e2 : (s ++ q).drop 2 = s.drop 2 ++ q := List.drop_append_of_le_length (by omega)
    rw [e1, e2, if_neg (by rw [List.length_append]; omega), List.take_append_of_le_length (by rw [List.length_drop]; omega), List.drop_append_of_le_length (by rw [List.length_drop]; omega)]
theorem rflag_more (s q : List UInt8) (h : (rflag s).2.2 = false) : rflag (s ++ q) = ((rflag s).1, (rflag s).2.1 ++ q, false) := by
  unfold rflag at *
  simp only [Bool.or_eq_false_iff] at h
  rw [rnum_more s q 1 h.1]
  simp only [h.2, Bool.or_false]

theorem rnum_of (n size : Nat) (h : n < 256 ^ size) (q : List UInt8) : rnum (be n size ++ q) size = (n, q, false) := by
  have h2 : (be n size).length = size := be_length _ _
  unfold rnum
  rw [if_neg (by rw [List.length_append]; omega), List.take_append_of_le_length (by omega), List.take_of_length_le (by omega), List.drop_append_of_le_length (by omega), List.drop_of_length_le (by omega), val_be, Nat.mod_eq_of_lt h]
  rfl
theorem rtext_of (t q : List UInt8) (h : t.length ≤ 65535) : rtext (tx t ++ q) = (t, q, false) := by
  have h2 : (be t.length 2).length = 2 := be_length _ _
  have e1 : (tx t ++ q).take 2 = be t.length 2 := by
    rw [tx, List.append_assoc, List.take_append_of_le_length (by omega), List.take_of_length_le (by omega)]
  have e2 : (tx t ++ q).drop 2 = t ++ q := by
    rw [tx, List.append_assoc, List.drop_append_of_le_length (by omega), List.drop_of_length_le (by omega), List.nil_append]
  have e3 : val (be t.length 2) = t.length := by rw [val_be]; omega
  have e4 : ((tx t ++ q).length) = 2 + t.length + q.length := by rw [List.length_append, tx_length]
  unfold rtext
  rw [e1, e2, e3, e4, if_neg (by omega)]
  simp
theorem rflag_of (b : Bool) (q : List UInt8) : rflag (fl b ++ q) = (b, q, false) := by
  cases b <;> rfl

theorem rnum_back (s : List UInt8) (n : Nat) (h : (rnum s n).2.2 = false) : be (rnum s n).1 n ++ (rnum s n).2.1 = s := by
  unfold rnum at *
  by_cases c : s.length < n
  · rw [if_pos c] at h; exact absurd h (by decide)
  · rw [if_neg c]
    simp only
    rw [be_val n (s.take n) (by simp; omega), List.take_append_drop]
theorem rtext_back (s : List UInt8) (h : (rtext s).2.2 = false) : tx (rtext s).1 ++ (rtext s).2.1 = s := by
  unfold rtext at *
  by_cases c : s.length < 2 ∨ s.length < 2 + val (s.take 2)
  · rw [if_pos c] at h; exact absurd h (by decide)
  · rw [if_neg c]
    exact take2_be s c
theorem rflag_back (s : List UInt8) (h : (rflag s).2.2 = false) : fl (rflag s).1 ++ (rflag s).2.1 = s := by
  unfold rflag at *
  simp only [Bool.or_eq_false_iff, decide_eq_false_iff_not] at h
  have b := rnum_back s 1 h.1
  have e : fl ((rnum s 1).1 == 1) = be (rnum s 1).1 1 := by
    have h2 : (rnum s 1).1 = 0 ∨ (rnum s 1).1 = 1 := by omega
    rcases h2 with h2 | h2 <;> rw [h2] <;> rfl
  simp only
  rw [e]
  exact b

theorem gnum (k : Nat) (s : List UInt8) (bad : Bool) (n : Nat) (hk : 12 ≤ k) (h1 : 1 ≤ n) (h8 : n ≤ 8) (hs : s.length ≤ 4611686018427387904) :
    flat_reader_num.f k (B s) bad (n : Int) = some ((((rnum s n).1 : Nat) : Int), B (rnum s n).2.1, bad || (rnum s n).2.2) := by
  unfold flat_reader_num.f rnum
  rw [take_eq s (by omega) _ k hk, Option.bind_some, takeR, if_pos ⟨by omega, by omega⟩, Int.toNat_natCast]
  by_cases h : s.length < n
  · rw [if_pos h, if_pos h]; rfl
  · rw [if_neg h, if_neg h]; rfl
theorem gtext (k : Nat) (s : List UInt8) (bad : Bool) (hk : 12 ≤ k) (hs : s.length ≤ 4611686018427387904) :
    flat_reader_text.f k (B s) bad = some (B (rtext s).1, B (rtext s).2.1, bad || (rtext s).2.2) := by
  unfold flat_reader_text.f rtext
  rw [takeText_eq s (by omega) k hk, Option.bind_some, takeTextR]
  by_cases h : s.length < 2 ∨ s.length < 2 + val (s.take 2)
  · rw [if_pos h, if_pos h]; rfl
  · rw [if_neg h, if_neg h]; rfl
/-- a note that bytes begin with, the rest, and whether it was not there -/
def gN (s : List UInt8) : Note × List UInt8 × Bool :=
  let a := rnum s 1; let b := rtext a.2.1; let c := rtext b.2.1; let d := rnum c.2.1 8
  (⟨(a.1 : Nat), B b.1, B c.1, (d.1 : Nat)⟩, d.2.1, a.2.2 || b.2.2 || c.2.2 || d.2.2)
def gP (s : List UInt8) : Pair × List UInt8 × Bool :=
  let b := rtext s; let c := rtext b.2.1
  (⟨B b.1, B c.1⟩, c.2.1, b.2.2 || c.2.2)
def gC (s : List UInt8) : Change × List UInt8 × Bool :=
  let a := rnum s 4; let b := rtext a.2.1; let c := rflag b.2.1; let d := rtext c.2.1; let e := rflag d.2.1; let g := rtext e.2.1
  (⟨(a.1 : Nat), B b.1, c.1, B d.1, e.1, B g.1⟩, g.2.1, a.2.2 || b.2.2 || c.2.2 || d.2.2 || e.2.2 || g.2.2)

theorem gN_le (s : List UInt8) : (gN s).2.1.length ≤ s.length := by
  have ha := rnum_le s 1
  have hb := rtext_le (rnum s 1).2.1
  have hc := rtext_le (rtext (rnum s 1).2.1).2.1
  have hd := rnum_le (rtext (rtext (rnum s 1).2.1).2.1).2.1 8
  simp only [gN]
  omega
theorem gP_le (s : List UInt8) : (gP s).2.1.length ≤ s.length := by
  have hb := rtext_le s
  have hc := rtext_le (rtext s).2.1
  simp only [gP]
  omega
theorem gC_le (s : List UInt8) : (gC s).2.1.length ≤ s.length := by
  have ha := rnum_le s 4
  have hb := rtext_le (rnum s 4).2.1
  have hc := rflag_le (rtext (rnum s 4).2.1).2.1
  have hd := rtext_le (rflag (rtext (rnum s 4).2.1).2.1).2.1
  have he := rflag_le (rtext (rflag (rtext (rnum s 4).2.1).2.1).2.1).2.1
  have hg := rtext_le (rflag (rtext (rflag (rtext (rnum s 4).2.1).2.1).2.1).2.1).2.1
  simp only [gC]
  omega

theorem getN (k : Nat) (s : List UInt8) (hk : 12 ≤ k) (hs : s.length ≤ 4611686018427387904) :
    flat_TakeNotes_1.f k (B s) false = some ((gN s).1.f0, (gN s).1.f1, (gN s).1.f2, (gN s).1.f3, B (gN s).2.1, (gN s).2.2) := by
  have ha := rnum_le s 1
  have hl := rnum_lt s 1
  have hb := rtext_le (rnum s 1).2.1
  have hc := rtext_le (rtext (rnum s 1).2.1).2.1
  unfold flat_TakeNotes_1.f gN
  change (flat_reader_num.f k (B s) false ((1 : Nat) : Int)).bind _ = _
  rw [gnum k s false 1 hk (by decide) (by decide) hs, Option.bind_some]
  simp only
  rw [gtext k _ _ hk (by omega), Option.bind_some]
  simp only
  rw [gtext k _ _ hk (by omega), Option.bind_some]
  simp only
  change (flat_reader_num.f k _ _ ((8 : Nat) : Int)).bind _ = _
  rw [gnum k _ _ 8 hk (by decide) (by decide) (by omega), Option.bind_some]
  simp only [Bool.false_or]
  rw [wrap64_in (by omega) (by omega)]
/-- so many things that bytes begin with, and the rest -/
def takeN {α : Type} (g : List UInt8 → α × List UInt8 × Bool) (may : α → Bool) : Nat → List UInt8 → Option (List α × List UInt8)
  | 0, s => some ([], s)
  | n + 1, s => if (g s).2.2 = true then none else if may (g s).1 = true then (takeN g may n (g s).2.1).map fun r => ((g s).1 :: r.1, r.2) else none
/-- a list of things -/
def takeL {α : Type} (g : List UInt8 → α × List UInt8 × Bool) (may : α → Bool) (s : List UInt8) : Option (List α × List UInt8) :=
  if s.length < 2 then none else takeN g may (val (s.take 2)) (s.drop 2)
def takeLR {α : Type} (g : List UInt8 → α × List UInt8 × Bool) (may : α → Bool) (s : List UInt8) : List α × ByteArray × Int :=
  match takeL g may s with
  | some r => (r.1, B r.2, 0)
  | none => ([], B [], 2)

theorem gloop {α : Type} {l0 : Nat → ByteArray → Bool → List α → Int → Int → Option (List α × ByteArray × Int)} {getf : Nat → ByteArray → Bool → Option (α × ByteArray × Bool)} {mayf : Nat → α → Option Bool}
    {g : List UInt8 → α × List UInt8 × Bool} {may : α → Bool} {cap : Nat} (hcap : 65536 ≤ cap)
    (step : ∀ k s bad out n i, l0 (k + 1) s bad out n i = if i < n then ((getf k s bad).bind fun q => (if q.2.2 = true then some ([], B [], 2) else ((mayf k q.1).bind fun m => (if m = true then (if out.length < cap then (l0 k q.2.1 q.2.2 (out ++ [q.1]) n (IntKind.u64.wrap (i + 1))) else none) else some ([], B [], 2))))) else (if bad = true then some ([], B [], 2) else some (out, s, 0)))
    (hget : ∀ k s, 12 ≤ k → s.length ≤ 4611686018427387904 → getf k (B s) false = some ((g s).1, B (g s).2.1, (g s).2.2))
    (hle : ∀ s, (g s).2.1.length ≤ s.length) (hmay : ∀ k x, 12 ≤ k → mayf k x = some (may x)) (d : Nat) :
    ∀ (k n i : Nat) (s : List UInt8) (out : List α), i + d = n → n < 65536 → d + 13 ≤ k → s.length ≤ 4611686018427387904 → out.length ≤ i →
      l0 k (B s) false out (n : Int) (i : Int) = some (match takeN g may d s with | some r => (out ++ r.1, B r.2, 0) | none => ([], B [], 2)) := by
  induction d with
  | zero =>
    intro k n i s out hi hn hk hs ho
    obtain ⟨k, rfl⟩ : ∃ m, k = m + 1 := ⟨k - 1, by omega⟩
    rw [step, if_neg (by omega), if_neg (by decide)]
    simp [takeN]
  | succ d ih =>
    intro k n i s out hi hn hk hs ho
    obtain ⟨k, rfl⟩ : ∃ m, k = m + 1 := ⟨k - 1, by omega⟩
    have w4 : IntKind.u64.wrap ((i : Int) + 1) = ((i + 1 : Nat) : Int) := by rw [u64_in (by omega) (by omega)]; omega
    have hL := hle s
    rw [step, if_pos (by omega), hget k s (by omega) hs, Option.bind_some, takeN]
    simp only
    cases hb : (g s).2.2 with
    | true => rw [if_pos rfl, if_pos rfl]
    | false =>
      simp only [Bool.false_eq_true, if_false]
      rw [hmay k _ (by omega), Option.bind_some]
      cases hm : may (g s).1 with
      | false => simp only [Bool.false_eq_true, if_false]
      | true =>
        simp only [eq_self, if_true]
        rw [if_pos (by omega), w4, ih k n (i + 1) _ _ (by omega) hn (by omega) (by omega) (by simp; omega)]
        cases takeN g may d (g s).2.1 with
        | none => rfl
        | some r => simp

theorem glist {α : Type} {f : Nat → ByteArray → Option (List α × ByteArray × Int)} {l0 : Nat → ByteArray → Bool → List α → Int → Int → Option (List α × ByteArray × Int)} {getf : Nat → ByteArray → Bool → Option (α × ByteArray × Bool)} {mayf : Nat → α → Option Bool}
    {g : List UInt8 → α × List UInt8 × Bool} {may : α → Bool} {cap : Nat} (hcap : 65536 ≤ cap)
    (hf : ∀ k a, f k a = (flat_reader_num.f k a false 2).bind fun p => l0 k p.2.1 p.2.2 [] p.1 0)
    (step : ∀ k s bad out n i, l0 (k + 1) s bad out n i = if i < n then ((getf k s bad).bind fun q => (if q.2.2 = true then some ([], B [], 2) else ((mayf k q.1).bind fun m => (if m = true then (if out.length < cap then (l0 k q.2.1 q.2.2 (out ++ [q.1]) n (IntKind.u64.wrap (i + 1))) else none) else some ([], B [], 2))))) else (if bad = true then some ([], B [], 2) else some (out, s, 0)))
    (hget : ∀ k s, 12 ≤ k → s.length ≤ 4611686018427387904 → getf k (B s) false = some ((g s).1, B (g s).2.1, (g s).2.2))
    (hle : ∀ s, (g s).2.1.length ≤ s.length) (hmay : ∀ k x, 12 ≤ k → mayf k x = some (may x)) (s : List UInt8) (hs : s.length ≤ 4611686018427387904) (k : Nat) (hk : 70000 ≤ k) :
    f k (B s) = some (takeLR g may s) := by
  rw [hf]
  change (flat_reader_num.f k (B s) false ((2 : Nat) : Int)).bind _ = _
  rw [gnum k s false 2 (by omega) (by decide) (by decide) hs, Option.bind_some]
  simp only [Bool.false_or]
  unfold takeLR takeL rnum
  by_cases h : s.length < 2
  · obtain ⟨k, rfl⟩ : ∃ m, k = m + 1 := ⟨k - 1, by omega⟩
    rw [if_pos h, if_pos h]
    simp only
    rw [step, if_neg (by decide), if_pos rfl]
  · rw [if_neg h, if_neg h]
    simp only
    have hv := val_lt (s.take 2)
    rw [List.length_take, Nat.min_eq_left (by omega)] at hv
    have hv2 : val (s.take 2) < 65536 := hv
    have := gloop (l0 := l0) (getf := getf) (mayf := mayf) (g := g) (may := may) hcap step hget hle hmay (val (s.take 2)) k (val (s.take 2)) 0 (s.drop 2) [] (by omega) hv2 (by omega) (by rw [List.length_drop]; omega) (Nat.le_refl _)
    rw [show ((0 : Nat) : Int) = 0 from rfl] at this
    rw [this]
    cases takeN g may (val (s.take 2)) (s.drop 2) with
    | none => rfl
    | some r => simp

theorem takeNotes_eq (s : List UInt8) (hs : s.length ≤ 4611686018427387904) (k : Nat) (hk : 70000 ≤ k) : flat_TakeNotes.f k (B s) = some (takeLR gN nright s) :=
  glist (f := flat_TakeNotes.f) (l0 := flat_TakeNotes.l0) (getf := fun k s bad => (flat_TakeNotes_1.f k s bad).bind fun q => some (⟨q.1, q.2.1, q.2.2.1, q.2.2.2.1⟩, q.2.2.2.2.1, q.2.2.2.2.2)) (mayf := fun k x => note_Right.f k x.f0 x.f1 x.f2 x.f3) (g := gN) (may := nright)
    (cap := 2932031007402) (by decide) (fun _ _ => rfl) (fun k s bad out n i => by simp only [flat_TakeNotes.l0, Option.bind_assoc, Option.bind_some]; rfl) (fun k s hk hs => by simp only [getN k s hk hs]; rfl) gN_le (fun k x h => right_eq x k (by omega)) s hs k hk
/-- a range that bytes begin with -/
def takeRangeO (s : List UInt8) : Option ((ByteArray × ByteArray × Bool) × List UInt8) :=
  let a := rtext s; let b := rtext a.2.1; let c := rflag b.2.1
  if (a.2.2 || b.2.2 || c.2.2) = true then none else if rright (B a.1) (B b.1) c.1 = true then some ((B a.1, B b.1, c.1), c.2.1) else none
def takeRangeR (s : List UInt8) : ByteArray × ByteArray × Bool × ByteArray × Int :=
  match takeRangeO s with
  | some r => (r.1.1, r.1.2.1, r.1.2.2, B r.2, 0)
  | none => (B [], B [], false, B [], 2)
end Go.Proofs.Ythidkdlmpkeogaa.Pl
