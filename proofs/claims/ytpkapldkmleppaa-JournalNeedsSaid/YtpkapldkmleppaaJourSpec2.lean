/- More of records in pieces: parts of records, sectors of other Gens. No program here. -/
import Derived.Test.YtpkapldkmleppaaJourSpec
namespace Go.Proofs.Ytpkapldkmleppaa.Pl
open Go.RowKit Go.Proofs.YtpkapldkmleppaaW.PrintWords Go.Proofs.YtpkapldkmleppaaW.PrintMore
set_option linter.unusedVariables false
set_option linter.unusedSimpArgs false
/-- no piece of this Gen and this place begins so -/
theorem okL_gen {gen i : Nat} {s : List UInt8} (h : okL gen i s) (hg : gen < 4294967296) : val (s.take 4) = gen := by
  have h3 := h.2.2
  rw [h3, headL, List.append_assoc, List.append_assoc, List.append_assoc, List.take_append_of_le_length (by simp [be_length]), List.take_of_length_le (by simp [be_length]), val_be]
  exact Nat.mod_eq_of_lt (by omega)
theorem zeros_bad (gen i : Nat) (h1 : 1 ≤ gen) (h2 : gen < 4294967296) : ¬ okL gen i (List.replicate 32 0) := fun h => by
  have := okL_gen h h2
  rw [List.take_replicate, show val (List.replicate (min 4 32) (0 : UInt8)) = 0 from by decide] at this
  omega
theorem piece_bad (gen g i j : Nat) (t : List UInt8) (hne : gen ≠ g) (h2 : gen < 4294967296) (h3 : g < 4294967296) : ¬ okL gen i (pieceL g j t) := fun h => by
  have := okL_gen h h2
  rw [pieceL, headL, List.append_assoc, List.append_assoc, List.append_assoc, List.take_append_of_le_length (by simp [be_length]), List.take_of_length_le (by simp [be_length]), val_be, Nat.mod_eq_of_lt (by omega)] at this
  omega
theorem mem_rec : ∀ (m gen at_ : Nat) (t : List UInt8), t.length ≤ m → ∀ s ∈ recL gen at_ t, ∃ j u, s = pieceL gen j u
  | 0, gen, at_, t, h, s, hs => by
    rw [recL_short gen at_ t (by omega)] at hs
    exact ⟨_, _, List.mem_singleton.1 hs⟩
  | m + 1, gen, at_, t, h, s, hs => by
    by_cases c : t.length ≤ 24
    · rw [recL_short gen at_ t c] at hs
      exact ⟨_, _, List.mem_singleton.1 hs⟩
    · rw [recL_long gen at_ t c] at hs
      rcases List.mem_cons.1 hs with rfl | hs
      · exact ⟨_, _, rfl⟩
      · exact mem_rec m gen (at_ + 1) _ (by rw [List.length_drop]; omega) s hs
theorem mem_recs (gen : Nat) : ∀ (ms : List (List UInt8)) (at_ : Nat), ∀ s ∈ recsL gen at_ ms, ∃ j u, s = pieceL gen j u
  | [], _, s, hs => by cases hs
  | t :: ms, at_, s, hs => by
    rw [recsL] at hs
    rcases List.mem_append.1 hs with hs | hs
    · exact mem_rec _ gen at_ t (Nat.le_refl _) s hs
    · exact mem_recs gen ms _ s hs
/-- sectors that tell nothing of this Gen at any place -/
def Bad (gen : Nat) (l : List (List UInt8)) : Prop := ∀ s ∈ l, ∀ i, ¬ okL gen i s
theorem bad_zeros (gen n : Nat) (h1 : 1 ≤ gen) (h2 : gen < 4294967296) : Bad gen (List.replicate n (List.replicate 32 0)) := fun s hs i => by
  rw [(List.mem_replicate.1 hs).2]
  exact zeros_bad gen i h1 h2
theorem bad_recs (gen g : Nat) (ms : List (List UInt8)) (at_ : Nat) (hne : gen ≠ g) (h2 : gen < 4294967296) (h3 : g < 4294967296) : Bad gen (recsL g at_ ms) := fun s hs i => by
  obtain ⟨j, u, rfl⟩ := mem_recs g ms at_ s hs
  exact piece_bad gen g i j u hne h2 h3
theorem bad_append {gen : Nat} {a b : List (List UInt8)} (ha : Bad gen a) (hb : Bad gen b) : Bad gen (a ++ b) := fun s hs i => by
  rcases List.mem_append.1 hs with hs | hs
  · exact ha s hs i
  · exact hb s hs i
theorem bad_sub {gen : Nat} {a b : List (List UInt8)} (h : ∀ s ∈ a, s ∈ b) (hb : Bad gen b) : Bad gen a := fun s hs i => hb s (h s hs) i
/-- where nothing follows, what is told ends -/
theorem parse_bad (gen i : Nat) (out : List (List UInt8)) (e left : Nat) (p : List UInt8) : ∀ rest : List (List UInt8), (∀ s, rest.head? = some s → ¬ okL gen i s) → parseL gen i out e left p rest = (out, e)
  | [], _ => rfl
  | s :: rest, h => parse_stop gen i out e left p s rest (h s rfl)
theorem bad_head {gen i : Nat} {rest : List (List UInt8)} (h : Bad gen rest) : ∀ s, rest.head? = some s → ¬ okL gen i s := fun s hs => h s (List.mem_of_mem_head? (by rw [hs]; rfl)) i
/-- records with nothing behind them are told just so -/
theorem parse_just (gen : Nat) (ms rest : List (List UInt8)) (hm : ∀ t ∈ ms, t.length ≤ 1000) (h : ∀ s, rest.head? = some s → ¬ okL gen (recsL gen 0 ms).length s) : parseL gen 0 [] 0 0 [] (recsL gen 0 ms ++ rest) = (ms, (recsL gen 0 ms).length) := by
  rw [parse_recs gen ms 0 [] rest hm, Nat.zero_add, List.nil_append, parse_bad gen _ ms _ 0 [] rest h]
/-- a part of a record tells nothing -/
theorem parse_part (gen : Nat) : ∀ (m : Nat) (t : List UInt8) (i j : Nat) (out : List (List UInt8)) (e left : Nat) (p : List UInt8) (rest : List (List UInt8)), t.length ≤ m → t.length ≤ 1000 → (left = 0 ∨ left = t.length) → j < needL t.length →
    (∀ s, rest.head? = some s → ¬ okL gen (i + j) s) → parseL gen i out e left p ((recL gen i t).take j ++ rest) = (out, e)
  | m, t, i, 0, out, e, left, p, rest, hm, h, hl, hj, hb => by
    rw [List.take_zero, List.nil_append]
    exact parse_bad gen i out e left p rest hb
  | m, t, i, j + 1, out, e, left, p, rest, hm, h, hl, hj, hb => by
    obtain ⟨k1, k2, k3⟩ := okL_piece gen i t h
    have c : ¬ t.length ≤ 24 := fun c => by simp only [needL] at hj; omega
    match m, hm with
    | 0, hm => exact absurd hm (by omega)
    | m + 1, hm =>
      rw [recL_long gen i t c, List.take_succ_cons, List.cons_append, parseL, if_pos ⟨k1, by rw [k2]; omega⟩, k2, k3, if_neg (by rw [List.length_take]; omega)]
      exact parse_part gen m (t.drop 24) (i + 1) j out e _ _ rest (by rw [List.length_drop]; omega) (by rw [List.length_drop]; omega) (.inr (by rw [List.length_take, List.length_drop]; omega)) (by simp only [needL] at hj ⊢; rw [List.length_drop]; omega)
        (by rw [show i + 1 + j = i + (j + 1) by omega]; exact hb)
/-- the first pieces of records tell the first records -/
theorem parse_first (gen : Nat) : ∀ (ms : List (List UInt8)) (i j : Nat) (out : List (List UInt8)) (rest : List (List UInt8)), (∀ t ∈ ms, t.length ≤ 1000) → j ≤ (recsL gen i ms).length → (∀ s, rest.head? = some s → ¬ okL gen (i + j) s) →
    ∃ c, c ≤ ms.length ∧ (parseL gen i out i 0 [] ((recsL gen i ms).take j ++ rest)).1 = out ++ ms.take c
  | [], i, j, out, rest, hm, hj, hb => by
    obtain rfl : j = 0 := by simpa [recsL] using hj
    refine ⟨0, Nat.le_refl _, ?_⟩
    rw [List.take_zero, List.nil_append, parse_bad gen i out i 0 [] rest hb, List.take_zero, List.append_nil]
  | t :: ms, i, j, out, rest, hm, hj, hb => by
    have ht := hm t List.mem_cons_self
    have hrl := recL_length t.length gen i t (Nat.le_refl _)
    rw [recsL, List.length_append, hrl] at hj
    by_cases c : j < needL t.length
    · refine ⟨0, Nat.zero_le _, ?_⟩
      rw [recsL, List.take_append_of_le_length (by omega), parse_part gen _ t i j out i 0 [] rest (Nat.le_refl _) ht (.inl rfl) c hb, List.take_zero, List.append_nil]
    · obtain ⟨c2, h1, h2⟩ := parse_first gen ms (i + needL t.length) (j - needL t.length) (out ++ [t]) rest (fun x hx => hm x (List.mem_cons_of_mem _ hx)) (by omega) (by rw [show i + needL t.length + (j - needL t.length) = i + j by omega]; exact hb)
      refine ⟨c2 + 1, by rw [List.length_cons]; omega, ?_⟩
      rw [recsL, List.take_append, hrl, List.take_of_length_le (by omega), List.append_assoc, parse_rec gen _ t i out i 0 [] _ (Nat.le_refl _) ht (.inl rfl), List.nil_append, h2, List.append_assoc]
      rfl
end Go.Proofs.Ytpkapldkmleppaa.Pl
