/- Sectors, pieces and records as lists of bytes: no program here. -/
import Derived.Test.YtpkapldkmleppaaBase
import Derived.Test.YtpkapldkmleppaaPackSpec
namespace Go.Proofs.Ytpkapldkmleppaa.Pl
open Go.RowKit Go.Proofs.YtpkapldkmleppaaW.PrintWords Go.Proofs.YtpkapldkmleppaaW.PrintMore
set_option linter.unusedVariables false
set_option linter.unusedSimpArgs false

def pad32 (l : List UInt8) : List UInt8 := l ++ List.replicate (32 - l.length) 0
theorem pad32_full (l : List UInt8) (h : l.length = 32) : pad32 l = l := by simp [pad32, h]
/-- a text, cut into sectors -/
def cutF : Nat → List UInt8 → List (List UInt8)
  | 0, _ => []
  | n + 1, l => if l = [] then [] else pad32 (l.take 32) :: cutF n (l.drop 32)
def cutL (l : List UInt8) : List (List UInt8) := cutF l.length l
theorem cutF_more : ∀ (n m : Nat) (l : List UInt8), l.length ≤ n → l.length ≤ m → cutF n l = cutF m l
  | 0, 0, l, _, _ => rfl
  | 0, m + 1, l, h, _ => by rw [cutF, cutF, if_pos (List.eq_nil_of_length_eq_zero (by omega))]
  | n + 1, 0, l, _, h => by rw [cutF, cutF, if_pos (List.eq_nil_of_length_eq_zero (by omega))]
  | n + 1, m + 1, l, h1, h2 => by
    by_cases e : l = []
    · rw [cutF, cutF, if_pos e, if_pos e]
    · rw [cutF, cutF, if_neg e, if_neg e, cutF_more n m _ (by rw [List.length_drop]; omega) (by rw [List.length_drop]; omega)]
theorem cutL_nil : cutL [] = [] := rfl
theorem cutL_cons (l : List UInt8) (h : l ≠ []) : cutL l = pad32 (l.take 32) :: cutL (l.drop 32) := by
  have : 0 < l.length := List.length_pos_iff.2 h
  obtain ⟨n, hn⟩ : ∃ n, l.length = n + 1 := ⟨l.length - 1, by omega⟩
  rw [cutL, hn, cutF, if_neg h, cutL, cutF_more n (l.drop 32).length _ (by rw [List.length_drop]; omega) (Nat.le_refl _)]
theorem cutL_short (l : List UInt8) (h : l ≠ []) (h2 : l.length ≤ 32) : cutL l = [pad32 l] := by
  rw [cutL_cons l h, List.take_of_length_le h2, List.drop_of_length_le h2, cutL_nil]
theorem cutL_flatten : ∀ (L : List (List UInt8)), (∀ s ∈ L, s.length = 32) → cutL L.flatten = L
  | [], _ => cutL_nil
  | s :: L, h => by
    have hs := h s List.mem_cons_self
    have hne : (s :: L).flatten ≠ [] := by
      intro e
      have := congrArg List.length e
      simp at this
      rw [this.1] at hs
      exact absurd hs (by decide)
    rw [cutL_cons _ hne, List.flatten_cons, List.take_append_of_le_length (by omega), List.take_of_length_le (by omega), List.drop_append_of_le_length (by omega), List.drop_of_length_le (by omega), List.nil_append, pad32_full _ hs,
      cutL_flatten L (fun x hx => h x (List.mem_cons_of_mem _ hx))]
def headL (gen at_ n : Nat) : List UInt8 := be gen 4 ++ be at_ 2 ++ be n 2
theorem headL_length (gen at_ n : Nat) : (headL gen at_ n).length = 8 := by simp [headL, be_length]
def pieceL (gen at_ : Nat) (t : List UInt8) : List UInt8 := headL gen at_ t.length ++ t.take 24 ++ List.replicate (24 - t.length) 0
theorem pieceL_length (gen at_ : Nat) (t : List UInt8) : (pieceL gen at_ t).length = 32 := by simp [pieceL, headL_length]; omega
/-- the pieces of a record -/
def recL (gen at_ : Nat) (t : List UInt8) : List (List UInt8) := pieceL gen at_ t :: if h : t.length ≤ 24 then [] else recL gen (at_ + 1) (t.drop 24)
termination_by t.length
decreasing_by rw [List.length_drop]; omega
theorem recL_short (gen at_ : Nat) (t : List UInt8) (h : t.length ≤ 24) : recL gen at_ t = [pieceL gen at_ t] := by rw [recL, dif_pos h]
theorem recL_long (gen at_ : Nat) (t : List UInt8) (h : ¬ t.length ≤ 24) : recL gen at_ t = pieceL gen at_ t :: recL gen (at_ + 1) (t.drop 24) := by rw [recL, dif_neg h]
def needL (n : Nat) : Nat := max 1 ((n + 23) / 24)
theorem recL_length : ∀ (m gen at_ : Nat) (t : List UInt8), t.length ≤ m → (recL gen at_ t).length = needL t.length
  | 0, gen, at_, t, h => by
    rw [recL_short gen at_ t (by omega)]
    have : t.length = 0 := by omega
    rw [this]
    rfl
  | m + 1, gen, at_, t, h => by
    by_cases c : t.length ≤ 24
    · rw [recL_short gen at_ t c]
      simp only [List.length_singleton, needL]
      omega
    · rw [recL_long gen at_ t c, List.length_cons, recL_length m gen (at_ + 1) (t.drop 24) (by rw [List.length_drop]; omega), List.length_drop]
      simp only [needL]
      omega
theorem recL_32 : ∀ (m gen at_ : Nat) (t : List UInt8), t.length ≤ m → ∀ s ∈ recL gen at_ t, s.length = 32
  | 0, gen, at_, t, h, s, hs => by
    rw [recL_short gen at_ t (by omega)] at hs
    rw [List.mem_singleton.1 hs]
    exact pieceL_length _ _ _
  | m + 1, gen, at_, t, h, s, hs => by
    by_cases c : t.length ≤ 24
    · rw [recL_short gen at_ t c] at hs
      rw [List.mem_singleton.1 hs]
      exact pieceL_length _ _ _
    · rw [recL_long gen at_ t c] at hs
      rcases List.mem_cons.1 hs with rfl | hs
      · exact pieceL_length _ _ _
      · exact recL_32 m gen (at_ + 1) _ (by rw [List.length_drop]; omega) s hs
/-- the pieces of records, one behind the other -/
def recsL (gen : Nat) : Nat → List (List UInt8) → List (List UInt8)
  | _, [] => []
  | at_, t :: ms => recL gen at_ t ++ recsL gen (at_ + needL t.length) ms
theorem recsL_append (gen : Nat) : ∀ (ms ns : List (List UInt8)) (at_ : Nat), recsL gen at_ (ms ++ ns) = recsL gen at_ ms ++ recsL gen (at_ + (recsL gen at_ ms).length) ns
  | [], ns, at_ => by simp [recsL]
  | t :: ms, ns, at_ => by
    rw [List.cons_append, recsL, recsL_append gen ms ns, recsL, List.append_assoc, List.length_append, recL_length _ gen at_ t (Nat.le_refl _), Nat.add_assoc]
theorem recsL_32 (gen : Nat) : ∀ (ms : List (List UInt8)) (at_ : Nat), ∀ s ∈ recsL gen at_ ms, s.length = 32
  | [], _, s, hs => by cases hs
  | t :: ms, at_, s, hs => by
    rw [recsL] at hs
    rcases List.mem_append.1 hs with hs | hs
    · exact recL_32 _ gen at_ t (Nat.le_refl _) s hs
    · exact recsL_32 gen ms _ s hs
/-- what a sector tells: how many bytes from there on, and those that it has -/
def lenL (s : List UInt8) : Nat := val ((s.drop 6).take 2)
def txtL (s : List UInt8) : List UInt8 := (s.drop 8).take (min (lenL s) 24)
def okL (gen at_ : Nat) (s : List UInt8) : Prop := s.length = 32 ∧ lenL s ≤ 1000 ∧ s = headL gen at_ (lenL s) ++ txtL s ++ List.replicate (24 - (txtL s).length) 0
instance (gen at_ : Nat) (s : List UInt8) : Decidable (okL gen at_ s) := by unfold okL; infer_instance
theorem val_be2 (n : Nat) (h : n < 65536) : val (be n 2) = n := by rw [val_be]; omega
theorem lenL_piece (gen at_ n : Nat) (x : List UInt8) (h : n < 65536) : lenL (headL gen at_ n ++ x) = n := by
  have e : (headL gen at_ n ++ x).drop 6 = be n 2 ++ x := by
    rw [headL, List.append_assoc, show be gen 4 ++ be at_ 2 ++ (be n 2 ++ x) = (be gen 4 ++ be at_ 2) ++ (be n 2 ++ x) from rfl, List.drop_append_of_le_length (by simp [be_length]), List.drop_of_length_le (by simp [be_length])]
    rfl
  rw [lenL, e, List.take_append_of_le_length (by simp [be_length]), List.take_of_length_le (by simp [be_length]), val_be2 n h]
theorem okL_piece (gen at_ : Nat) (t : List UInt8) (h : t.length ≤ 1000) : okL gen at_ (pieceL gen at_ t) ∧ lenL (pieceL gen at_ t) = t.length ∧ txtL (pieceL gen at_ t) = t.take 24 := by
  have e1 : lenL (pieceL gen at_ t) = t.length := by rw [pieceL, List.append_assoc]; exact lenL_piece _ _ _ _ (by omega)
  have e2 : txtL (pieceL gen at_ t) = t.take 24 := by
    rw [txtL, e1, pieceL, List.append_assoc, List.drop_append_of_le_length (by rw [headL_length]; omega), List.drop_of_length_le (by rw [headL_length]; omega), List.nil_append, List.take_append_of_le_length (by rw [List.length_take]; omega),
      List.take_of_length_le (by rw [List.length_take]; omega)]
  refine ⟨⟨pieceL_length _ _ _, by omega, ?_⟩, e1, e2⟩
  rw [e1, e2, List.length_take]
  rw [show 24 - min 24 t.length = 24 - t.length by omega]
  rfl
/-- the records that stand in pieces: the state is what was told, where it ends, how many bytes are left, and those that are there -/
def parseL (gen : Nat) : Nat → List (List UInt8) → Nat → Nat → List UInt8 → List (List UInt8) → List (List UInt8) × Nat
  | _, out, e, _, _, [] => (out, e)
  | i, out, e, left, p, s :: rest =>
    if okL gen i s ∧ ¬ (0 < left ∧ lenL s ≠ left) then
      (if lenL s - (txtL s).length = 0 then parseL gen (i + 1) (out ++ [p ++ txtL s]) (i + 1) 0 [] rest else parseL gen (i + 1) out e (lenL s - (txtL s).length) (p ++ txtL s) rest)
    else (out, e)
theorem parse_rec (gen : Nat) : ∀ (m : Nat) (t : List UInt8) (i : Nat) (out : List (List UInt8)) (e left : Nat) (p : List UInt8) (rest : List (List UInt8)), t.length ≤ m → t.length ≤ 1000 → (left = 0 ∨ left = t.length) →
    parseL gen i out e left p (recL gen i t ++ rest) = parseL gen (i + needL t.length) (out ++ [p ++ t]) (i + needL t.length) 0 [] rest
  | m, t, i, out, e, left, p, rest, hm, h, hl => by
    obtain ⟨k1, k2, k3⟩ := okL_piece gen i t h
    by_cases c : t.length ≤ 24
    · rw [recL_short gen i t c, List.singleton_append, parseL, if_pos ⟨k1, by rw [k2]; omega⟩, k2, k3, if_pos (by rw [List.length_take]; omega), List.take_of_length_le c]
      have : needL t.length = 1 := by simp only [needL]; omega
      rw [this]
    · match m, hm with
      | 0, hm => exact absurd hm (by omega)
      | m + 1, hm =>
        rw [recL_long gen i t c, List.cons_append, parseL, if_pos ⟨k1, by rw [k2]; omega⟩, k2, k3, if_neg (by rw [List.length_take]; omega),
          parse_rec gen m (t.drop 24) (i + 1) out e _ _ rest (by rw [List.length_drop]; omega) (by rw [List.length_drop]; omega) (.inr (by rw [List.length_take, List.length_drop]; omega)), List.append_assoc, List.take_append_drop, List.length_drop]
        have : i + 1 + needL (t.length - 24) = i + needL t.length := by simp only [needL]; omega
        rw [this]
/-- what is told are the records of the pieces up to where they end -/
theorem parse_sound (gen : Nat) : ∀ (l : List (List UInt8)) (D : List (List UInt8)) (out : List (List UInt8)) (e left : Nat) (p : List UInt8), e ≤ D.length → D.take e = recsL gen 0 out → (∀ t ∈ out, t.length ≤ 1000) → p.length + left ≤ 1000 →
    (left = 0 → p = [] ∧ e = D.length) → (0 < left → ∀ t, t.length = left → D.drop e ++ recL gen D.length t = recL gen e (p ++ t)) →
    ∃ out' e', parseL gen D.length out e left p l = (out', e') ∧ e' ≤ (D ++ l).length ∧ (D ++ l).take e' = recsL gen 0 out' ∧ ∀ t ∈ out', t.length ≤ 1000
  | [], D, out, e, left, p, he, hD, hout, hpl, h0, h1 => ⟨out, e, rfl, by simpa using he, by simpa using hD, hout⟩
  | s :: l, D, out, e, left, p, he, hD, hout, hpl, h0, h1 => by
    have hstop : ∃ out' e', (out, e) = (out', e') ∧ e' ≤ (D ++ s :: l).length ∧ (D ++ s :: l).take e' = recsL gen 0 out' ∧ ∀ t ∈ out', t.length ≤ 1000 :=
      ⟨out, e, rfl, by rw [List.length_append]; omega, by rw [List.take_append_of_le_length he]; exact hD, hout⟩
    have hel : (recsL gen 0 out).length = e := by rw [← hD, List.length_take]; omega
    rw [parseL]
    by_cases c : okL gen D.length s ∧ ¬ (0 < left ∧ lenL s ≠ left)
    · rw [if_pos c]
      obtain ⟨⟨k1, k2, k3⟩, k4⟩ := c
      have hx : (txtL s).length = min (lenL s) 24 := by rw [txtL, List.length_take, List.length_drop]; omega
      have hs : ∀ t : List UInt8, t.length = lenL s - (txtL s).length → s = pieceL gen D.length (txtL s ++ t) := fun t ht => by
        have ht2 : (txtL s ++ t).length = lenL s := by rw [List.length_append]; omega
        have ht3 : (txtL s ++ t).take 24 = txtL s := by
          by_cases c : lenL s ≤ 24
          · have : t = [] := List.eq_nil_of_length_eq_zero (by omega)
            rw [this, List.append_nil, List.take_of_length_le (by omega)]
          · rw [List.take_append_of_le_length (by omega), List.take_of_length_le (by omega)]
        rw [pieceL, ht2, ht3]
        conv => lhs; rw [k3]
        rw [hx, show 24 - min (lenL s) 24 = 24 - lenL s by omega]
      have hD1 : (D ++ [s]).length = D.length + 1 := by simp
      by_cases c2 : lenL s - (txtL s).length = 0
      · rw [if_pos c2]
        have hs0 := hs [] (by simp [c2])
        rw [List.append_nil] at hs0
        have hrec : D.drop e ++ [s] = recL gen e (p ++ txtL s) := by
          rcases Nat.eq_zero_or_pos left with hl | hl
          · obtain ⟨rfl, rfl⟩ := h0 hl
            rw [List.drop_of_length_le (Nat.le_refl _), List.nil_append, List.nil_append, recL_short _ _ _ (by omega), ← hs0]
          · rw [← h1 hl (txtL s) (by omega), recL_short _ _ _ (by omega), ← hs0]
        have hlen : p.length + (txtL s).length ≤ 1000 := by
          rcases Nat.eq_zero_or_pos left with hl | hl
          · obtain ⟨rfl, rfl⟩ := h0 hl
            simp only [List.length_nil]
            omega
          · omega
        have := parse_sound gen l (D ++ [s]) (out ++ [p ++ txtL s]) (D.length + 1) 0 [] (by omega) (by
            rw [List.take_of_length_le (by omega), recsL_append, hel, Nat.zero_add, recsL, recsL, List.append_nil, ← hrec, ← hD, ← List.append_assoc, List.take_append_drop])
          (fun t ht => by
            rcases List.mem_append.1 ht with ht | ht
            · exact hout t ht
            · rw [List.mem_singleton.1 ht, List.length_append]; exact hlen) (by simp) (fun _ => ⟨rfl, by omega⟩) (fun h => absurd h (Nat.lt_irrefl 0))
        rw [hD1] at this
        simpa using this
      · rw [if_neg c2]
        have h24 : (txtL s).length = 24 := by omega
        have hlen : p.length + lenL s ≤ 1000 := by
          rcases Nat.eq_zero_or_pos left with hl | hl
          · obtain ⟨rfl, rfl⟩ := h0 hl
            simp only [List.length_nil]
            omega
          · omega
        have := parse_sound gen l (D ++ [s]) out e (lenL s - (txtL s).length) (p ++ txtL s) (by omega) (by rw [List.take_append_of_le_length he]; exact hD) hout (by rw [List.length_append]; omega) (fun h => absurd h c2) (fun _ t ht => by
          have hs1 := hs t ht
          have hlt : ¬ (txtL s ++ t).length ≤ 24 := by rw [List.length_append]; omega
          have hr : [s] ++ recL gen (D.length + 1) t = recL gen D.length (txtL s ++ t) := by
            rw [recL_long _ _ _ hlt, ← hs1, List.drop_append_of_le_length (by omega), List.drop_of_length_le (by omega)]
            rfl
          rw [hD1, List.drop_append_of_le_length he, List.append_assoc, hr, List.append_assoc]
          rcases Nat.eq_zero_or_pos left with hl | hl
          · obtain ⟨rfl, rfl⟩ := h0 hl
            rw [List.drop_of_length_le (Nat.le_refl _), List.nil_append, List.nil_append]
          · exact h1 hl _ (by rw [List.length_append]; omega))
        rw [hD1] at this
        simpa using this
    · rw [if_neg c]
      exact hstop
end Go.Proofs.Ytpkapldkmleppaa.Pl
