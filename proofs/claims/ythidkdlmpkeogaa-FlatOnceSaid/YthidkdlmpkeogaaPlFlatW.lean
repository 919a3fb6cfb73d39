/- What the writing functions of package flat come to. -/
import Derived.Test.YthidkdlmpkeogaaFflatx0
import Derived.Test.YthidkdlmpkeogaaFflatx0
import Derived.Test.YthidkdlmpkeogaaFflatx1
import Derived.Test.YthidkdlmpkeogaaFflatx2
import Derived.Test.YthidkdlmpkeogaaFflatx2
import Derived.Test.YthidkdlmpkeogaaFstretch
import Derived.Test.YthidkdlmpkeogaaFleaf
import Derived.Test.YthidkdlmpkeogaaPlPackA
import Derived.Test.YthidkdlmpkeogaaPlNoteR
namespace Go.Proofs.Ythidkdlmpkeogaa.Pl
open Go.RowKit Go.Proofs.Ythidkdlmpkeogaa.F Go.Proofs.YthidkdlmpkeogaaW.PrintWords Go.Proofs.YthidkdlmpkeogaaW.PrintLast Go.Proofs.YthidkdlmpkeogaaW.PrintMore
set_option linter.unusedVariables false
set_option linter.unusedSimpArgs false

abbrev Pair := S50
abbrev Change := S42

/-- a text's bytes -/
def tx (l : List UInt8) : List UInt8 := be l.length 2 ++ l
def bl (s : ByteArray) : List UInt8 := s.data.toList
def fl (b : Bool) : List UInt8 := [if b = true then 1 else 0]
def encN (n : Note) : List UInt8 := be n.f0.toNat 1 ++ tx (bl n.f1) ++ tx (bl n.f2) ++ be n.f3.toNat 8
def encP (p : Pair) : List UInt8 := tx (bl p.f0) ++ tx (bl p.f1)
def encC (c : Change) : List UInt8 := be c.f0.toNat 4 ++ tx (bl c.f1) ++ fl c.f2 ++ tx (bl c.f3) ++ fl c.f4 ++ tx (bl c.f5)
def pright (p : Pair) : Bool := decide (p.f0.size ≤ 16 ∧ p.f1.size ≤ 32)
def cmay (c : Change) : Bool :=
  decide ((c.f1.size ≤ 16 ∧ c.f3.size ≤ 32 ∧ c.f5.size ≤ 32) ∧ (1 ≤ c.f0 ∧ c.f0 ≤ 2147483647) ∧ (c.f2 = true ∨ c.f3 = B []) ∧ (c.f4 = true ∨ c.f5 = B []) ∧ (c.f2 = true ∨ c.f4 = true))
/-- what the bytes of a list are -/
def listR {α : Type} (may : α → Bool) (enc : α → List UInt8) (l : List α) : ByteArray × Int :=
  if l.length ≤ 65535 ∧ ∀ x ∈ l, may x = true then (B (be l.length 2 ++ l.flatMap enc), 0) else (B [], 1)

theorem bl_B (s : ByteArray) : B (bl s) = s := (B_of s).symm
theorem bl_length (s : ByteArray) : (bl s).length = s.size := by rw [bl, data_length]
theorem tx_length (l : List UInt8) : (tx l).length = 2 + l.length := by simp [tx, be_length]
theorem fl_length (b : Bool) : (fl b).length = 1 := rfl

theorem wnum (k : Nat) (s : List UInt8) (bad : Bool) (n : Nat) (size : Nat) (hk : 12 ≤ k) (h1 : 1 ≤ size) (h8 : size ≤ 8) (hn : n < 256 ^ size) (hs : s.length ≤ 4611686018427387904) :
    flat_writer_num.f k (B s) bad (n : Int) (size : Int) = some (B (s ++ be n size), bad) := by
  have hn8 : n < 18446744073709551616 := Nat.lt_of_lt_of_le hn (Nat.pow_le_pow_right (n := 256) (by decide) h8)
  have e : numR n (size : Int) = (B (be n size), 0) := if_pos ⟨by omega, by omega, by rw [Int.toNat_natCast]; exact hn⟩
  unfold flat_writer_num.f
  rw [num_eq n hn8 _ (by omega) k hk, Option.bind_some, e]
  simp only
  rw [if_pos (by rw [B_size, B_size, be_length]; omega), B_append]
  simp

theorem wtext (k : Nat) (s t : List UInt8) (bad : Bool) (hk : 12 ≤ k) (ht : t.length ≤ 65535) (hs : s.length ≤ 4611686018427387904) :
    flat_writer_text.f k (B s) bad (B t) = some (B (s ++ tx t), bad) := by
  have e : textR t = (B (be t.length 2 ++ t), 0) := if_pos ht
  unfold flat_writer_text.f
  rw [text_eq t (by omega) k hk, Option.bind_some, e]
  simp only
  rw [if_pos (by rw [B_size, B_size, List.length_append, be_length]; omega), B_append]
  simp [tx]

theorem wtext' (k : Nat) (s : List UInt8) (t : ByteArray) (bad : Bool) (hk : 12 ≤ k) (ht : t.size ≤ 65535) (hs : s.length ≤ 4611686018427387904) :
    flat_writer_text.f k (B s) bad t = some (B (s ++ tx (bl t)), bad) := by
  have := wtext k s (bl t) bad hk (by rw [bl_length]; exact ht) hs
  rwa [bl_B] at this

theorem wflag (k : Nat) (s : List UInt8) (bad b : Bool) (hk : 12 ≤ k) (hs : s.length ≤ 4611686018427387904) :
    flat_writer_flag.f k (B s) bad b = some (B (s ++ fl b), bad) := by
  unfold flat_writer_flag.f
  cases b with
  | true => rw [if_pos rfl, show (1 : Int) = ((1 : Nat) : Int) from rfl, wnum k s bad 1 1 hk (by decide) (by decide) (by decide) hs]; rfl
  | false => rw [if_neg (by decide), show (0 : Int) = ((0 : Nat) : Int) from rfl, show (1 : Int) = ((1 : Nat) : Int) from rfl, wnum k s bad 0 1 hk (by decide) (by decide) (by decide) hs]; rfl

theorem nright_kind (n : Note) (h : nright n = true) : n.f0 = ((n.f0.toNat : Nat) : Int) ∧ n.f0.toNat < 256 ∧ n.f1.size ≤ 16 ∧ n.f2.size ≤ 32 := by
  unfold nright at h
  rw [decide_eq_true_iff] at h
  omega

theorem putN (k : Nat) (s : List UInt8) (bad : Bool) (n : Note) (hk : 12 ≤ k) (h : nright n = true) (hf : nfine n) (hs : s.length ≤ 4000000000000000000) :
    flat_Notes_1.f k (B s) bad n.f0 n.f1 n.f2 n.f3 = some (B (s ++ encN n), bad) := by
  obtain ⟨h0, h1, h2, h3⟩ := nright_kind n h
  obtain ⟨f0, f1⟩ := hf
  have e0 : IntKind.u64.wrap n.f0 = ((n.f0.toNat : Nat) : Int) := by rw [u64_in (by omega) (by omega)]; exact h0
  have e3 : n.f3 = ((n.f3.toNat : Nat) : Int) := by omega
  have l1 := tx_length (bl n.f1)
  have l2 := tx_length (bl n.f2)
  rw [bl_length] at l1 l2
  have p := wnum k s bad n.f0.toNat 1 hk (by decide) (by decide) (by omega) (by omega)
  have q := wnum k (s ++ be n.f0.toNat 1 ++ tx (bl n.f1) ++ tx (bl n.f2)) bad n.f3.toNat 8 hk (by decide) (by decide) (by show _ < 18446744073709551616; omega) (by simp [be_length, l1, l2]; omega)
  rw [← e3] at q
  unfold flat_Notes_1.f
  rw [e0]
  change (flat_writer_num.f k (B s) bad ((n.f0.toNat : Nat) : Int) ((1 : Nat) : Int)).bind _ = _
  rw [p, Option.bind_some]
  simp only
  rw [wtext' k _ n.f1 bad hk (by omega) (by simp [be_length]; omega), Option.bind_some]
  simp only
  rw [wtext' k _ n.f2 bad hk (by omega) (by simp [be_length, l1]; omega), Option.bind_some]
  simp only
  change (flat_writer_num.f k _ bad n.f3 ((8 : Nat) : Int)).bind _ = _
  rw [q, Option.bind_some]
  simp only
  rw [encN]
  simp only [List.append_assoc]

theorem putP (k : Nat) (s : List UInt8) (bad : Bool) (p : Pair) (hk : 12 ≤ k) (h : pright p = true) (hs : s.length ≤ 4000000000000000000) :
    flat_Pairs_1.f k (B s) bad p.f0 p.f1 = some (B (s ++ encP p), bad) := by
  unfold pright at h
  rw [decide_eq_true_iff] at h
  have l1 := tx_length (bl p.f0)
  rw [bl_length] at l1
  unfold flat_Pairs_1.f
  rw [wtext' k _ p.f0 bad hk (by omega) (by omega), Option.bind_some]
  simp only
  rw [wtext' k _ p.f1 bad hk (by omega) (by simp [l1]; omega), Option.bind_some]
  simp only
  rw [encP]
  simp only [List.append_assoc]

theorem putC (k : Nat) (s : List UInt8) (bad : Bool) (c : Change) (hk : 12 ≤ k) (h : cmay c = true) (hs : s.length ≤ 4000000000000000000) :
    flat_Changes_1.f k (B s) bad c.f0 c.f1 c.f2 c.f3 c.f4 c.f5 = some (B (s ++ encC c), bad) := by
  unfold cmay at h
  rw [decide_eq_true_iff] at h
  obtain ⟨⟨s1, s3, s5⟩, ⟨n1, n2⟩, -⟩ := h
  have e0 : IntKind.u64.wrap c.f0 = ((c.f0.toNat : Nat) : Int) := by rw [u64_in (by omega) (by omega)]; omega
  have l1 := tx_length (bl c.f1)
  have l3 := tx_length (bl c.f3)
  have l5 := tx_length (bl c.f5)
  have lf := fl_length c.f2
  have lg := fl_length c.f4
  rw [bl_length] at l1 l3 l5
  unfold flat_Changes_1.f
  rw [e0]
  change (flat_writer_num.f k (B s) bad ((c.f0.toNat : Nat) : Int) ((4 : Nat) : Int)).bind _ = _
  rw [wnum k s bad c.f0.toNat 4 hk (by decide) (by decide) (by show _ < 4294967296; omega) (by omega), Option.bind_some]
  simp only
  rw [wtext' k _ c.f1 bad hk (by omega) (by simp [be_length]; omega), Option.bind_some]
  simp only
  rw [wflag k _ bad c.f2 hk (by simp [be_length, l1]; omega), Option.bind_some]
  simp only
  rw [wtext' k _ c.f3 bad hk (by omega) (by simp [be_length, l1, lf]; omega), Option.bind_some]
  simp only
  rw [wflag k _ bad c.f4 hk (by simp [be_length, l1, l3, lf]; omega), Option.bind_some]
  simp only
  rw [wtext' k _ c.f5 bad hk (by omega) (by simp [be_length, l1, l3, lf, lg]; omega), Option.bind_some]
  simp only
  rw [encC]
  simp only [List.append_assoc]

theorem leaf1_eq (p : Pair) (k : Nat) (hk : 2 ≤ k) : leaf_Right.f k [p] = some (pright p) := by
  obtain ⟨k, rfl⟩ : ∃ m, k = m + 2 := ⟨k - 2, by omega⟩
  unfold leaf_Right.f pright
  have r0 : rd_T50 [p] 0 = p := rfl
  have w1 : wrap64 (0 + 1) = 1 := wrap64_in (by omega) (by omega)
  simp only [leaf_Right.l0, r0, w1, List.length_singleton]
  rw [if_pos (by decide), if_pos (by decide), if_pos (by decide)]
  by_cases h1 : (p.f0.size : Int) > 16
  · rw [if_pos h1, decide_eq_false (by omega)]
  · rw [if_neg h1]
    by_cases h2 : (p.f1.size : Int) > 32
    · rw [if_pos h2, decide_eq_false (by omega)]
    · rw [if_neg h2, if_neg (by decide), if_neg (by decide), decide_eq_true (by omega)]

theorem pair_eq (p : Pair) (k : Nat) (hk : 2 ≤ k) : flat_pair.f k p.f0 p.f1 = some (pright p) := by
  unfold flat_pair.f
  have := leaf1_eq p k hk
  rw [show (⟨p.f0, p.f1⟩ : Pair) = p from rfl, this]
  rfl

theorem may_eq (c : Change) (k : Nat) (hk : 2 ≤ k) : flat_May.f k c.f0 c.f1 c.f2 c.f3 c.f4 c.f5 = some (cmay c) := by
  unfold flat_May.f
  rw [leaf1_eq _ k hk, leaf1_eq _ k hk, Option.bind_some, Option.bind_some]
  unfold cmay pright
  simp only [nil_of]
  by_cases a1 : c.f1.size ≤ 16 <;> by_cases a3 : c.f3.size ≤ 32 <;> by_cases a5 : c.f5.size ≤ 32 <;> simp only [a1, a3, a5, and_true, and_false, true_and, false_and, decide_true, decide_false, if_true, if_false, Bool.false_eq_true]
  by_cases n1 : c.f0 ≥ 1
  · by_cases n2 : c.f0 ≤ 2147483647
    · rw [if_pos n1, if_pos n2]
      have n3 : 1 ≤ c.f0 := n1
      simp only [n2, n3, and_true, true_and]
      cases c.f2 <;> cases c.f4 <;> by_cases e3 : c.f3 = B [] <;> by_cases e5 : c.f5 = B [] <;> simp [e3, e5]
    · rw [if_pos n1, if_neg n2, decide_eq_false (by omega)]
  · rw [if_neg n1, decide_eq_false (by omega)]

theorem wloop {α : Type} {l0 : Nat → List α → ByteArray → Bool → Int → Option (ByteArray × Int)} {rd : List α → Int → α} {mayf : Nat → α → Option Bool} {putf : Nat → ByteArray → Bool → α → Option (ByteArray × Bool)}
    {may : α → Bool} {enc : α → List UInt8} {Pr : α → Prop}
    (step : ∀ k l s bad i, l0 (k + 1) l s bad i = if i < (l.length : Int) then (if 0 ≤ i then ((mayf k (rd l i)).bind fun m => (if m = true then ((putf k s bad (rd l i)).bind fun p => l0 k l p.1 p.2 (wrap64 (i + 1))) else some (B [], 1))) else none) else (if bad = true then some (B [], 1) else some (s, 0)))
    (hrd : ∀ (l : List α) (i : Nat) (h : i < l.length), rd l (i : Int) = l[i])
    (hmay : ∀ k x, 12 ≤ k → mayf k x = some (may x))
    (hput : ∀ k s x, 12 ≤ k → Pr x → may x = true → s.length ≤ 4000000000000000000 → putf k (B s) false x = some (B (s ++ enc x), false))
    (henc : ∀ x, may x = true → (enc x).length ≤ 200) (l : List α) (hl : ∀ x ∈ l, Pr x) (hn : l.length ≤ 65535) (d : Nat) :
    ∀ (k i : Nat) (s : List UInt8), i + d = l.length → d + 13 ≤ k → s.length + 200 * d ≤ 1000000000 →
      l0 k l (B s) false (i : Int) = some (if ∀ x ∈ l.drop i, may x = true then (B (s ++ (l.drop i).flatMap enc), 0) else (B [], 1)) := by
  induction d with
  | zero =>
    intro k i s hi hk hs
    obtain ⟨k, rfl⟩ : ∃ m, k = m + 1 := ⟨k - 1, by omega⟩
    rw [step, if_neg (by omega), if_neg (by decide), List.drop_of_length_le (by omega), if_pos (by simp)]
    simp
  | succ d ih =>
    intro k i s hi hk hs
    obtain ⟨k, rfl⟩ : ∃ m, k = m + 1 := ⟨k - 1, by omega⟩
    have w4 : wrap64 ((i : Int) + 1) = ((i + 1 : Nat) : Int) := by rw [wrap64_in (by omega) (by omega)]; omega
    have hlt : i < l.length := by omega
    rw [step, if_pos (by omega), if_pos (by omega), hrd l i hlt, hmay k _ (by omega), Option.bind_some, List.drop_eq_getElem_cons hlt]
    by_cases h : may l[i] = true
    · have hE := henc _ h
      rw [if_pos h, hput k s _ (by omega) (hl _ (List.getElem_mem hlt)) h (by omega), Option.bind_some]
      simp only
      rw [w4, ih k (i + 1) _ (by omega) (by omega) (by rw [List.length_append]; omega)]
      congr 1
      by_cases ha : ∀ x ∈ l.drop (i + 1), may x = true
      · rw [if_pos ha, if_pos (by intro x hx; rcases List.mem_cons.1 hx with rfl | hx; exact h; exact ha x hx), List.flatMap_cons, List.append_assoc]
      · rw [if_neg ha, if_neg (fun hh => ha fun x hx => hh x (List.mem_cons_of_mem _ hx))]
    · rw [if_neg h, if_neg (fun hh => h (hh _ (List.mem_cons_self ..)))]

theorem encN_le (n : Note) (h : nright n = true) : (encN n).length ≤ 200 := by
  obtain ⟨h0, h1, h2, h3⟩ := nright_kind n h
  simp only [encN, List.length_append, be_length, tx_length, bl_length]
  omega
theorem encP_le (p : Pair) (h : pright p = true) : (encP p).length ≤ 200 := by
  unfold pright at h
  rw [decide_eq_true_iff] at h
  simp only [encP, List.length_append, tx_length, bl_length]
  omega
theorem encC_le (c : Change) (h : cmay c = true) : (encC c).length ≤ 200 := by
  unfold cmay at h
  rw [decide_eq_true_iff] at h
  simp only [encC, List.length_append, be_length, tx_length, bl_length, fl_length]
  omega
theorem rdP (l : List Pair) (i : Nat) (h : i < l.length) : rd_T50 l (i : Int) = l[i] := by
  simp [rd_T50, h]
theorem rdC (l : List Change) (i : Nat) (h : i < l.length) : rd_T42 l (i : Int) = l[i] := by
  simp [rd_T42, h]

theorem wlist {α : Type} {f : Nat → List α → Option (ByteArray × Int)} {l0 : Nat → List α → ByteArray → Bool → Int → Option (ByteArray × Int)} {may : α → Bool} {enc : α → List UInt8}
    (hf : ∀ k l, f k l = if (l.length : Int) > 65535 then some (B [], 1) else ((flat_writer_num.f k (B []) false (IntKind.u64.wrap (l.length : Int)) 2).bind fun p => l0 k l p.1 p.2 0))
    (l : List α) (k : Nat) (hk : l.length + 13 ≤ k)
    (hl0 : l.length ≤ 65535 → ∀ (k i : Nat) (s : List UInt8), i + l.length = l.length → l.length + 13 ≤ k → s.length + 200 * l.length ≤ 1000000000 →
      l0 k l (B s) false (i : Int) = some (if ∀ x ∈ l.drop i, may x = true then (B (s ++ (l.drop i).flatMap enc), 0) else (B [], 1))) :
    f k l = some (listR may enc l) := by
  rw [hf]
  unfold listR
  by_cases h : l.length ≤ 65535
  · rw [if_neg (by omega), u64_in (by omega) (by omega)]
    change (flat_writer_num.f k (B []) false ((l.length : Nat) : Int) ((2 : Nat) : Int)).bind _ = _
    rw [wnum k [] false l.length 2 (by omega) (by decide) (by decide) (by show _ < 65536; omega) (by simp), Option.bind_some]
    simp only
    have := hl0 h k 0 ([] ++ be l.length 2) (by omega) hk (by simp [be_length]; omega)
    rw [show ((0 : Nat) : Int) = 0 from rfl] at this
    rw [this]
    simp only [List.drop_zero, List.nil_append]
    by_cases ha : ∀ x ∈ l, may x = true
    · rw [if_pos ha, if_pos ⟨h, ha⟩]
    · rw [if_neg ha, if_neg (fun hh => ha hh.2)]
  · rw [if_pos (by omega), if_neg (fun hh => h hh.1)]

theorem notes_eq (l : List Note) (hl : ∀ n ∈ l, nfine n) (k : Nat) (hk : l.length + 13 ≤ k) : flat_Notes.f k l = some (listR nright encN l) :=
  wlist (f := flat_Notes.f) (l0 := flat_Notes.l0) (may := nright) (enc := encN) (fun _ _ => rfl) l k hk fun hn => wloop (l0 := flat_Notes.l0) (rd := rd_T48) (may := nright) (enc := encN) (mayf := fun k x => note_Right.f k x.f0 x.f1 x.f2 x.f3) (putf := fun k s bad x => flat_Notes_1.f k s bad x.f0 x.f1 x.f2 x.f3) (Pr := nfine) (fun _ _ _ _ _ => rfl) rdT (fun k x h => right_eq x k (by omega)) (fun k s x hk hp hm hs => putN k s false x hk hm hp hs) encN_le l hl hn l.length
theorem pairs_eq (l : List Pair) (k : Nat) (hk : l.length + 13 ≤ k) : flat_Pairs.f k l = some (listR pright encP l) :=
  wlist (f := flat_Pairs.f) (l0 := flat_Pairs.l0) (may := pright) (enc := encP) (fun _ _ => rfl) l k hk fun hn => wloop (l0 := flat_Pairs.l0) (rd := rd_T50) (may := pright) (enc := encP) (mayf := fun k x => flat_pair.f k x.f0 x.f1) (putf := fun k s bad x => flat_Pairs_1.f k s bad x.f0 x.f1) (Pr := fun _ => True) (fun _ _ _ _ _ => rfl) rdP (fun k x h => pair_eq x k (by omega)) (fun k s x hk hp hm hs => putP k s false x hk hm hs) encP_le l (fun _ _ => trivial) hn l.length
theorem changes_eq (l : List Change) (k : Nat) (hk : l.length + 13 ≤ k) : flat_Changes.f k l = some (listR cmay encC l) :=
  wlist (f := flat_Changes.f) (l0 := flat_Changes.l0) (may := cmay) (enc := encC) (fun _ _ => rfl) l k hk fun hn => wloop (l0 := flat_Changes.l0) (rd := rd_T42) (may := cmay) (enc := encC) (mayf := fun k x => flat_May.f k x.f0 x.f1 x.f2 x.f3 x.f4 x.f5) (putf := fun k s bad x => flat_Changes_1.f k s bad x.f0 x.f1 x.f2 x.f3 x.f4 x.f5) (Pr := fun _ => True) (fun _ _ _ _ _ => rfl) rdC (fun k x h => may_eq x k (by omega)) (fun k s x hk hp hm hs => putC k s false x hk hm hs) encC_le l (fun _ _ => trivial) hn l.length

/-- is it a range? -/
def rright (lo hi : ByteArray) (op : Bool) : Bool := decide (lo.size ≤ 16 ∧ hi.size ≤ 17 ∧ (op = true → hi = B []))
def encR (lo hi : ByteArray) (op : Bool) : List UInt8 := tx (bl lo) ++ tx (bl hi) ++ fl op
def rangeR (lo hi : ByteArray) (op : Bool) : ByteArray × Int := if rright lo hi op = true then (B (encR lo hi op), 0) else (B [], 1)
theorem stretch_eq (lo hi : ByteArray) (op : Bool) : stretch_Right.f lo hi op = some (rright lo hi op) := by
  unfold stretch_Right.f rright
  by_cases h1 : (lo.size : Int) ≤ 16
  · by_cases h2 : (hi.size : Int) ≤ 17
    · have g1 : lo.size ≤ 16 := by omega
      have g2 : hi.size ≤ 17 := by omega
      have e : (hi.toList == ([] : List UInt8)) = decide (hi = B []) := by
        rw [Bool.eq_iff_iff, beq_iff_eq, decide_eq_true_iff]
        exact nil_of _
      rw [if_pos h1, if_pos h2, e]
      cases op <;> simp [g1, g2]
    · rw [if_pos h1, if_neg h2, decide_eq_false (by omega)]
  · rw [if_neg h1, decide_eq_false (by omega)]
theorem range_eq (lo hi : ByteArray) (op : Bool) (h1 : lo.size ≤ 65535) (h2 : hi.size ≤ 65535) (k : Nat) (hk : 12 ≤ k) : flat_Range.f k lo hi op = some (rangeR lo hi op) := by
  unfold flat_Range.f rangeR
  have l1 := tx_length (bl lo)
  have l2 := tx_length (bl hi)
  rw [bl_length] at l1 l2
  change (flat_writer_text.f k (B []) false lo).bind _ = _
  rw [wtext' k [] lo false hk h1 (by simp), Option.bind_some]
  simp only
  rw [wtext' k _ hi false hk h2 (by simp [l1]; omega), Option.bind_some]
  simp only
  rw [wflag k _ false op hk (by simp [l1, l2]; omega), Option.bind_some, stretch_eq, Option.bind_some]
  simp only
  cases rright lo hi op with
  | true => rw [if_pos rfl, if_neg (by decide), if_pos rfl]; simp [encR]
  | false => rw [if_neg (by decide), if_neg (by decide)]; rfl
end Go.Proofs.Ythidkdlmpkeogaa.Pl
