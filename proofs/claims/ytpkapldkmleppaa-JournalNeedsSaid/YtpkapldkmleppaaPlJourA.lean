/- What the functions of package journal come to, in plain words: pieces of records. -/
import Derived.Test.YtpkapldkmleppaaFjournalx0
import Derived.Test.YtpkapldkmleppaaJourSpec
import Derived.Test.YtpkapldkmleppaaPlPackN
namespace Go.Proofs.Ytpkapldkmleppaa.Pl
open Go.RowKit Go.Proofs.Ytpkapldkmleppaa.F Go.Proofs.YtpkapldkmleppaaW.PrintWords Go.Proofs.YtpkapldkmleppaaW.PrintLast Go.Proofs.YtpkapldkmleppaaW.PrintMore
set_option linter.unusedVariables false
set_option linter.unusedSimpArgs false
theorem cut_B (l : List UInt8) (h : l.length ≤ 4398046511104) : block_Cut.f (B l) = some ((cutL l).map B) := by
  unfold block_Cut.f
  rw [if_pos (by rw [B_size]; exact h), cutB, B_data]
theorem numR_ok (n s : Nat) (h0 : 1 ≤ s) (h1 : s ≤ 8) (h : n < 256 ^ s) : numR n (s : Int) = (B (be n s), 0) := by
  unfold numR
  rw [if_pos ⟨by omega, by omega, by rw [Int.toNat_natCast]; exact h⟩, Int.toNat_natCast]
theorem B_ext (l : List UInt8) (n : Nat) : (B l).extract n l.length = B (l.drop n) := by
  conv => lhs; arg 3; rw [← B_size l]
  exact B_extract_all l n
theorem piece_eq (gen i : Nat) (t : List UInt8) (hg : gen < 4294967296) (hi : i < 65536) (ht : t.length < 65536) (k : Nat) (hk : 16 ≤ k) : journal_piece.f k (gen : Int) (i : Int) (B t) = some (B (pieceL gen i t)) := by
  obtain ⟨j, rfl⟩ : ∃ j, k = j + 4 := ⟨k - 4, by omega⟩
  have n1 : pack_Num.f (j + 3) (gen : Int) 4 = some (B (be gen 4), 0) := (num_eq gen (by omega) 4 (by decide) (j + 3) (by omega)).trans (congrArg some (numR_ok gen 4 (by omega) (by omega) (by omega)))
  have n2 : pack_Num.f (j + 2) (i : Int) 2 = some (B (be i 2), 0) := (num_eq i (by omega) 2 (by decide) (j + 2) (by omega)).trans (congrArg some (numR_ok i 2 (by omega) (by omega) (by omega)))
  have n3 : pack_Num.f (j + 1) (t.length : Int) 2 = some (B (be t.length 2), 0) := (num_eq t.length (by omega) 2 (by decide) (j + 1) (by omega)).trans (congrArg some (numR_ok t.length 2 (by omega) (by omega) (by omega)))
  have hc : block_Cut.f (B (headL gen i t.length ++ t.take 24)) = some [B (pieceL gen i t)] := by
    rw [cut_B _ (by rw [List.length_append, headL_length, List.length_take]; omega), cutL_short _ (by intro e; have := congrArg List.length e; rw [List.length_append, headL_length] at this; simp at this) (by rw [List.length_append, headL_length, List.length_take]; omega)]
    rw [pad32, List.length_append, headL_length, List.length_take, show 32 - (8 + min 24 t.length) = 24 - t.length by omega]
    rfl
  unfold journal_piece.f
  rw [Option.bind_some, journal_piece.l0, if_pos (by simp), if_pos (by simp), if_pos (by simp), if_pos rfl, show rd [(gen : Int), (i : Int), ((B t).size : Int)] 0 = (gen : Int) from rfl, u64_in (by omega) (by omega), n1, Option.bind_some,
    if_pos (by rw [B_size, be_length]; decide), show wrap64 (0 + 1) = 1 from wrap64_in (by decide) (by decide),
    journal_piece.l0, if_pos (by simp), if_pos (by simp), if_pos (by simp), if_neg (by decide), show rd [(gen : Int), (i : Int), ((B t).size : Int)] 1 = (i : Int) from rfl, u64_in (by omega) (by omega), n2, Option.bind_some,
    if_pos (by rw [ByteArray.size_append, B_size, B_size, be_length, be_length]; decide), show wrap64 (1 + 1) = 2 from wrap64_in (by decide) (by decide),
    journal_piece.l0, if_pos (by simp), if_pos (by simp), if_pos (by simp), if_neg (by decide), show rd [(gen : Int), (i : Int), ((B t).size : Int)] 2 = ((B t).size : Int) from rfl, B_size, u64_in (by omega) (by omega), n3, Option.bind_some,
    if_pos (by rw [ByteArray.size_append, ByteArray.size_append, B_size, B_size, B_size, be_length, be_length, be_length]; decide), show wrap64 (2 + 1) = 3 from wrap64_in (by decide) (by decide),
    journal_piece.l0, if_neg (by simp), B_size]
  have hm : mn 24 (t.length : Int) = ((min 24 t.length : Nat) : Int) := by unfold mn; omega
  have e : (⟨#[]⟩ : ByteArray) ++ B (be gen 4) ++ B (be i 2) ++ B (be t.length 2) = B (headL gen i t.length) := by
    rw [B_nil, B_append, B_append, B_append]
    rfl
  have e2 : t.take (min 24 t.length) = t.take 24 := by
    by_cases d : t.length ≤ 24
    · rw [Nat.min_eq_right d, List.take_of_length_le (Nat.le_refl _), List.take_of_length_le d]
    · rw [Nat.min_eq_left (by omega)]
  rw [hm, if_pos (by omega), if_pos (by omega), Int.toNat_natCast, e, B_extract, List.drop_zero, e2, if_pos (by rw [B_size, B_size, headL_length, List.length_take]; omega), B_append, hc, Option.bind_some, if_pos (by simp)]
  rfl
theorem jneed_eq (n : Nat) (h : n ≤ 1000) : journal_Need.f (n : Int) = some ((needL n : Nat) : Int) := by
  unfold journal_Need.f
  rw [if_neg (by omega), if_neg (by omega), wrap64_in (n := (n : Int) + 24) (by omega) (by omega), wrap64_in (n := (n : Int) + 24 - 1) (by omega) (by omega)]
  have : Int.tdiv ((n : Int) + 24 - 1) 24 = (((n + 23) / 24 : Nat) : Int) := by
    rw [show (n : Int) + 24 - 1 = ((n + 23 : Nat) : Int) by omega, show (24 : Int) = ((24 : Nat) : Int) from rfl, ← Int.ofNat_tdiv]
  rw [this, wrap64_in (by omega) (by omega)]
  congr 1
  unfold mx needL
  split <;> omega
theorem jneed_bad (n : Int) (h : n < 0 ∨ 1000 < n) : journal_Need.f n = some 0 := by
  unfold journal_Need.f
  by_cases c : n < 0
  · rw [if_pos c]
  · rw [if_neg c, if_pos (by omega)]
theorem aging_eq (gen : Int) : journal_aging.f gen = some (decide (1 ≤ gen ∧ gen ≤ 2147483647)) := by
  unfold journal_aging.f
  by_cases c : gen ≥ 1
  · rw [if_pos c]
    congr 1
    rw [decide_eq_decide]
    omega
  · rw [if_neg c]
    congr 1
    symm
    rw [decide_eq_false_iff_not]
    omega
theorem placed_eq (i : Int) : journal_placed.f i = some (decide (0 ≤ i ∧ i ≤ 128)) := by
  unfold journal_placed.f
  by_cases c : i ≥ 0
  · rw [if_pos c]
    congr 1
    rw [decide_eq_decide]
    omega
  · rw [if_neg c]
    congr 1
    symm
    rw [decide_eq_false_iff_not]
    omega
theorem pieces_loop (gen i : Nat) (hg : gen < 4294967296) : ∀ (m : Nat) (t : List UInt8) (out : List ByteArray) (k : Nat), t.length ≤ m → t.length ≤ 1000 → i + out.length + needL t.length ≤ 10000 → 17 + m ≤ k →
    journal_Pieces.l0 k (gen : Int) (i : Int) (B t) out = some (out ++ (recL gen (i + out.length) t).map B, 0)
  | m, t, out, k, hm, ht, hi, hk => by
    obtain ⟨k, rfl⟩ : ∃ j, k = j + 1 := ⟨k - 1, by omega⟩
    have hn : 1 ≤ needL t.length := by unfold needL; omega
    rw [journal_Pieces.l0, wrap64_in (by omega) (by omega), show (i : Int) + (out.length : Int) = ((i + out.length : Nat) : Int) by omega, piece_eq gen (i + out.length) t hg (by omega) (by omega) k (by omega), Option.bind_some, if_pos (by omega), Option.bind_some, B_size]
    by_cases c : t.length ≤ 24
    · rw [if_pos (by omega), recL_short _ _ _ c]
      rfl
    · match m, hm with
      | 0, hm => exact absurd hm (by omega)
      | m + 1, hm =>
        rw [if_neg (by omega), if_pos (by omega), B_ext, pieces_loop gen i hg m (t.drop 24) _ k (by rw [List.length_drop]; omega) (by rw [List.length_drop]; omega)
          (by rw [List.length_append, List.length_singleton, List.length_drop]; unfold needL at hi ⊢; omega) (by omega), recL_long _ _ _ c, List.map_cons, List.length_append, List.length_singleton, List.append_assoc, Nat.add_assoc]
        rfl
/-- the pieces of a record, or that it is refused -/
def piecesR (gen i : Int) (t : List UInt8) : List ByteArray × Int :=
  if (1 ≤ gen ∧ gen ≤ 2147483647) ∧ (0 ≤ i ∧ i ≤ 128) ∧ t.length ≤ 1000 then (if i + (needL t.length : Nat) ≤ 128 then ((recL gen.toNat i.toNat t).map B, 0) else ([], 6)) else ([], 1)
theorem pieces_eq (gen i : Int) (t : List UInt8) (ht : t.length ≤ 9000000000000) (k : Nat) (hk : 1100 ≤ k) : journal_Pieces.f k gen i (B t) = some (piecesR gen i t) := by
  obtain ⟨k, rfl⟩ : ∃ j, k = j + 1 := ⟨k - 1, by omega⟩
  unfold journal_Pieces.f
  rw [aging_eq, Option.bind_some]
  unfold piecesR
  by_cases c1 : 1 ≤ gen ∧ gen ≤ 2147483647
  · rw [decide_eq_true c1, if_pos rfl, placed_eq, Option.bind_some]
    by_cases c2 : 0 ≤ i ∧ i ≤ 128
    · rw [decide_eq_true c2, if_pos rfl, journal_Pieces.j0, B_size]
      by_cases c3 : t.length ≤ 1000
      · rw [if_neg (by rw [decide_eq_false (by omega)]; decide), jneed_eq _ c3, Option.bind_some, if_pos (show (1 ≤ gen ∧ gen ≤ 2147483647) ∧ (0 ≤ i ∧ i ≤ 128) ∧ t.length ≤ 1000 from ⟨c1, c2, c3⟩)]
        have hnl : needL t.length ≤ 42 := by unfold needL; omega
        rw [wrap64_in (by omega) (by omega)]
        by_cases c4 : i + (needL t.length : Nat) ≤ 128
        · obtain ⟨g, rfl⟩ := Int.eq_ofNat_of_zero_le (by omega : 0 ≤ gen)
          obtain ⟨n, rfl⟩ := Int.eq_ofNat_of_zero_le (by omega : 0 ≤ i)
          rw [if_neg (by omega), if_pos c4, pieces_loop g n (by omega) 1000 t [] k c3 c3 (by simp; omega) (by omega)]
          rfl
        · rw [if_pos (by omega), if_neg c4]
      · rw [if_pos (decide_eq_true (by omega)), if_neg (fun h => c3 h.2.2)]
    · rw [decide_eq_false c2, if_neg (by decide), journal_Pieces.j0, if_pos rfl, if_neg (fun h => c2 h.2.1)]
  · rw [decide_eq_false c1, if_neg (by decide), journal_Pieces.j0, if_pos rfl, if_neg (fun h => c1 h.1)]
/-- what a sector tells -/
def toldR (gen i : Nat) (s : List UInt8) : Int × ByteArray × Bool := if s.length = 32 then ((lenL s : Nat), B (txtL s), decide (okL gen i s)) else (0, B [], false)
theorem told_eq (gen i : Nat) (s : List UInt8) (hg : gen < 4294967296) (hi : i < 65536) (hs : s.length ≤ 9000000000000) (k : Nat) (hk : 20 ≤ k) : journal_told.f k (gen : Int) (i : Int) (B s) = some (toldR gen i s) := by
  unfold journal_told.f toldR
  rw [B_size]
  by_cases c : s.length = 32
  · rw [if_pos (by omega), if_pos (by omega), if_pos c, B_ext, take_eq (s.drop 6) (by rw [List.length_drop]; omega) 2 k (by omega), Option.bind_some]
    have hv : lenL s < 65536 := by
      have := val_lt ((s.drop 6).take 2)
      rw [List.length_take, List.length_drop, show min 2 (s.length - 6) = 2 by omega] at this
      exact this
    have ht : takeR (s.drop 6) 2 = (((lenL s : Nat) : Int), B (s.drop 8), 0) := by
      unfold takeR
      rw [if_pos (by decide), if_neg (by rw [List.length_drop]; simp; omega), List.drop_drop]
      rfl
    have hm : mn ((lenL s : Nat) : Int) 24 = ((min (lenL s) 24 : Nat) : Int) := by unfold mn; omega
    have hx : (txtL s).length = min (lenL s) 24 := by rw [txtL, List.length_take, List.length_drop]; omega
    rw [ht]
    simp only
    rw [wrap64_in (by omega) (by omega), hm, if_pos (by omega), B_size, List.length_drop, if_pos (by omega), Int.toNat_natCast, B_extract, List.drop_zero, show (s.drop 8).take (min (lenL s) 24) = txtL s from rfl,
      piece_eq gen i (txtL s) hg hi (by omega) k (by omega), Option.bind_some, num_eq (lenL s) (by omega) 2 (by decide) k (by omega), Option.bind_some, show (2 : Int) = ((2 : Nat) : Int) from rfl, numR_ok _ 2 (by omega) (by omega) (by omega)]
    simp only
    by_cases c2 : lenL s ≤ 1000
    · have p1 : (B (pieceL gen i (txtL s))).extract 0 6 = B (be gen 4 ++ be i 2) := by
        rw [B_extract, List.drop_zero, pieceL, headL]
        refine congrArg B ?_
        rw [List.append_assoc (be gen 4 ++ be i 2 ++ be (txtL s).length 2), List.append_assoc (be gen 4 ++ be i 2), List.take_append_of_le_length (by simp [be_length]), List.take_of_length_le (by simp [be_length])]
      have p2 : (B (pieceL gen i (txtL s))).extract 8 (B (pieceL gen i (txtL s))).size = B (txtL s ++ List.replicate (24 - (txtL s).length) 0) := by
        rw [B_extract_all, pieceL]
        refine congrArg B ?_
        rw [List.append_assoc, List.drop_append_of_le_length (by rw [headL_length]; omega), List.drop_of_length_le (by rw [headL_length]; omega), List.nil_append, List.take_of_length_le (by omega)]
      rw [if_pos (by omega), if_pos (by decide), if_pos (by rw [B_size, pieceL_length]; decide), p1, p2,
        if_pos (by rw [B_size, B_size]; simp [be_length]), if_pos (by rw [B_size, pieceL_length]; decide), B_append, if_pos (by rw [B_size, B_size]; simp [be_length]; omega), B_append, B_toList, B_toList]
      congr 3
      rw [Bool.eq_iff_iff, beq_iff_eq, decide_eq_true_eq, okL, headL]
      constructor
      · intro h
        exact ⟨c, c2, by rw [← List.append_assoc] at h; exact h⟩
      · intro h
        rw [← List.append_assoc]
        exact h.2.2
    · rw [if_neg (by omega)]
      congr 3
      symm
      rw [decide_eq_false_iff_not]
      exact fun h => c2 h.2.1
  · rw [if_neg (by omega), if_neg c]
    rfl
end Go.Proofs.Ytpkapldkmleppaa.Pl
