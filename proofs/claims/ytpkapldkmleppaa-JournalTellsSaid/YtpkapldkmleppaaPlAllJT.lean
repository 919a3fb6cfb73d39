import Derived.Test.YtpkapldkmleppaaFpack
import Derived.Test.YtpkapldkmleppaaBase
import Derived.Test.YtpkapldkmleppaaPackSpec
import Derived.Test.YtpkapldkmleppaaFjournalx0
import Derived.Test.YtpkapldkmleppaaJourSpec
import Derived.Test.YtpkapldkmleppaaFjournalx1
import Derived.Test.YtpkapldkmleppaaFdiskD
import Derived.Test.YtpkapldkmleppaaFdiskE
import Derived.Test.YtpkapldkmleppaaFjournalx2
import Derived.Test.YtpkapldkmleppaaFref01
import Derived.Test.YtpkapldkmleppaaFlaw08awake
import Derived.Test.YtpkapldkmleppaaFref08x0
import Derived.Test.YtpkapldkmleppaaFref08x1
import Derived.Test.YtpkapldkmleppaaFref04x0
import Derived.Test.YtpkapldkmleppaaFref04x1
import Derived.Test.YtpkapldkmleppaaFref04x2
import Derived.Test.YtpkapldkmleppaaFlaw04Ref
import Derived.Test.YtpkapldkmleppaaFref08x2
import Derived.Test.YtpkapldkmleppaaFlaw08JournalTells
/- What the functions of package pack come to, in plain words: numbers and texts as bytes. -/
namespace Go.Proofs.Ytpkapldkmleppaa.Pl
open Go.RowKit Go.Proofs.Ytpkapldkmleppaa.F Go.Proofs.YtpkapldkmleppaaW.PrintWords Go.Proofs.YtpkapldkmleppaaW.PrintLast Go.Proofs.YtpkapldkmleppaaW.PrintMore
set_option linter.unusedVariables false
set_option linter.unusedSimpArgs false

theorem fits_eq (a : Int) : pack_fits.f a = some (decide (1 ≤ a ∧ a ≤ 8)) := by
  unfold pack_fits.f
  by_cases h : a ≥ 1
  · rw [if_pos h]; congr 1; simp; omega
  · rw [if_neg h]; congr 1; simp; omega

theorem num_loop (n s : Nat) (hs : s ≤ 8) (d : Nat) : ∀ (k i : Nat), i + d = s → d < k →
    pack_Num.l0 k (n : Int) (s : Int) (List.replicate d 0 ++ (be n i).map fun b => (b.toNat : Int)) (s : Int) (i : Int) = some (B (be n s), 0) := by
  induction d with
  | zero =>
    intro k i hi hk
    obtain ⟨k, rfl⟩ : ∃ m, k = m + 1 := ⟨k - 1, by omega⟩
    have e : i = s := by omega
    subst e
    simp only [pack_Num.l0]
    rw [if_neg (by omega), List.replicate_zero, List.nil_append, strOfNums_map]
  | succ d ih =>
    intro k i hi hk
    obtain ⟨k, rfl⟩ : ∃ m, k = m + 1 := ⟨k - 1, by omega⟩
    have w1 : wrap64 (8 * (i : Int)) = 8 * (i : Int) := wrap64_in (by omega) (by omega)
    have w2 : wrap64 ((s : Int) - 1) = (s : Int) - 1 := wrap64_in (by omega) (by omega)
    have w3 : wrap64 ((s : Int) - 1 - i) = (d : Int) := by rw [wrap64_in (by omega) (by omega)]; omega
    have w4 : wrap64 ((i : Int) + 1) = ((i + 1 : Nat) : Int) := by rw [wrap64_in (by omega) (by omega)]; omega
    have hl : ((List.replicate (d + 1) 0 ++ (be n i).map fun b => (b.toNat : Int) : List Int).length : Int) = (s : Int) := by
      simp [be_length]; omega
    have hset : (List.replicate (d + 1) 0 ++ (be n i).map fun b => (b.toNat : Int) : List Int).set d (((n : Int) / 2 ^ min (8 * (i : Int)).toNat IntKind.u64.bits) % 256)
        = List.replicate d 0 ++ (be n (i + 1)).map fun b => (b.toNat : Int) := by
      rw [List.replicate_succ', List.append_assoc, List.singleton_append, set_mid _ _ _ _ d (by simp), div_pow256 n i (by omega), be]
      simp only [List.map_cons, UInt8.toNat_ofNat']
      congr 2
      omega
    simp only [pack_Num.l0, shr]
    rw [if_pos (by omega), w1, w2, w3, w4, hl, if_pos (by omega), if_pos (by omega), if_pos (by omega), Int.toNat_natCast, hset]
    exact ih k (i + 1) (by omega) (by omega)

theorem num_eq (n : Nat) (hn : n < 18446744073709551616) (size : Int) (hs : -9223372036854775808 ≤ size ∧ size ≤ 9223372036854775807) (k : Nat) (hk : 12 ≤ k) :
    pack_Num.f k (n : Int) size = some (numR n size) := by
  obtain ⟨k, rfl⟩ : ∃ m, k = m + 1 := ⟨k - 1, by omega⟩
  unfold pack_Num.f numR
  rw [fits_eq, Option.bind_some]
  by_cases h : 1 ≤ size ∧ size ≤ 8
  · obtain ⟨s, rfl⟩ := Int.eq_ofNat_of_zero_le (show 0 ≤ size by omega)
    have hp : ∀ b, pack_Num.j0 (k + 1) (n : Int) (s : Int) b = if b = true then some (B [], 1) else some (B (be n s), 0) := by
      intro b
      have := num_loop n s (by omega) s k 0 (by omega) (by omega)
      simp only [be, List.map_nil, List.append_nil] at this
      cases b with
      | true => simp only [pack_Num.j0]; rfl
      | false =>
        simp only [pack_Num.j0]
        rw [if_neg (by decide), if_pos (by omega), if_pos (by omega), Option.bind_some, Int.toNat_natCast, List.length_replicate, if_neg (by decide)]
        exact this
    rw [decide_eq_true h, if_pos rfl, Int.toNat_natCast]
    by_cases h8 : (s : Int) < 8
    · have w1 : wrap64 (8 * (s : Int)) = 8 * (s : Int) := wrap64_in (by omega) (by omega)
      rw [if_pos h8, w1, if_pos (by omega), shr, div_pow256 n s (by omega), hp]
      by_cases hb : n < 256 ^ s
      · rw [Nat.div_eq_of_lt hb, if_neg (by decide), if_pos ⟨h.1, h.2, hb⟩]
      · have : 0 < n / 256 ^ s := Nat.div_pos (by omega) (Nat.pow_pos (by decide))
        rw [if_pos (decide_eq_true (Int.natCast_pos.mpr this)), if_neg (fun hh => hb hh.2.2)]
    · have e : s = 8 := by omega
      subst e
      rw [if_neg h8, hp, if_neg (by decide), if_pos ⟨h.1, h.2, hn⟩]
  · rw [decide_eq_false h, if_neg (by decide), if_neg (fun hh => h ⟨hh.1, hh.2.1⟩)]
    simp only [pack_Num.j0]
    rfl

theorem take_loop (l : List UInt8) (s : Nat) (hs : s ≤ 8) (hl : s ≤ l.length) (d : Nat) : ∀ (k i : Nat), i + d = s → d < k →
    pack_Take.l0 k (B l) (s : Int) ((val (l.take i) : Nat) : Int) (s : Int) (i : Int) = some (((val (l.take s) : Nat) : Int), B (l.drop s), 0) := by
  induction d with
  | zero =>
    intro k i hi hk
    obtain ⟨k, rfl⟩ : ∃ m, k = m + 1 := ⟨k - 1, by omega⟩
    have e : i = s := by omega
    subst e
    simp only [pack_Take.l0]
    rw [if_neg (by omega), if_pos (by omega), if_pos (by rw [B_size]; omega), Int.toNat_natCast, B_extract_all]
  | succ d ih =>
    intro k i hi hk
    obtain ⟨k, rfl⟩ : ∃ m, k = m + 1 := ⟨k - 1, by omega⟩
    have w4 : wrap64 ((i : Int) + 1) = ((i + 1 : Nat) : Int) := by rw [wrap64_in (by omega) (by omega)]; omega
    have hv : val (l.take i) < 256 ^ 7 := by
      have h1 := val_lt (l.take i)
      have h2 : (l.take i).length = i := by simp; omega
      rw [h2] at h1
      exact Nat.lt_of_lt_of_le h1 (Nat.pow_le_pow_right (by decide) (by omega))
    have hb : l[i].toNat < 256 := l[i].toNat_lt
    have hbt : bt (B l) (i : Int) = (l[i].toNat : Int) := bt_B l i (by simp; omega)
    have e1 : IntKind.u64.wrap (((val (l.take i) : Nat) : Int) * 256) = ((val (l.take i) : Nat) : Int) * 256 := u64_in (by omega) (by omega)
    have e2 : IntKind.u64.wrap (l[i].toNat : Int) = (l[i].toNat : Int) := u64_in (by omega) (by omega)
    have e3 : Go.bits .or .u64 (((val (l.take i) : Nat) : Int) * 256) (l[i].toNat : Int) = ((val (l.take (i + 1)) : Nat) : Int) := by
      rw [Go.bits_join .u64 64 (by decide) (fun m h0 h1 => u64_in h0 (by omega)) 8 _ _ (by omega) (by omega) (by omega) (by omega) (by omega) (by omega),
        List.take_succ_eq_append_getElem (by omega), val_append_one]
      omega
    simp only [pack_Take.l0]
    rw [if_pos (by omega), if_pos (by omega), if_pos (by rw [B_size]; omega), hbt, e1, e2, e3, w4]
    exact ih k (i + 1) (by omega) (by omega)

theorem take_eq (l : List UInt8) (hl : l.length ≤ 9223372036854775807) (size : Int) (k : Nat) (hk : 12 ≤ k) :
    pack_Take.f k (B l) size = some (takeR l size) := by
  unfold pack_Take.f takeR
  rw [fits_eq, Option.bind_some]
  by_cases h : 1 ≤ size ∧ size ≤ 8
  · obtain ⟨s, rfl⟩ := Int.eq_ofNat_of_zero_le (show 0 ≤ size by omega)
    rw [decide_eq_true h, if_pos rfl, if_pos h, Int.toNat_natCast, B_size]
    by_cases hc : l.length < s
    · rw [if_pos (by omega), if_pos hc]
      rfl
    · rw [if_neg (by omega), if_neg hc]
      have := take_loop l s (by omega) (by omega) s k 0 (by omega) (by omega)
      simpa [val] using this
  · rw [decide_eq_false h, if_neg (by decide), if_neg h]
    rfl
theorem rdOf_B (ls : List (List UInt8)) (i : Nat) (h : i < ls.length) : rdOf ByteArray.empty (ls.map B) (i : Int) = B ls[i] := by
  simp [rdOf, h]
end Go.Proofs.Ytpkapldkmleppaa.Pl
/- What the functions of package journal come to, in plain words: pieces of records. -/
namespace Go.Proofs.Ytpkapldkmleppaa.Pl
open Go.RowKit Go.Proofs.Ytpkapldkmleppaa.F Go.Proofs.YtpkapldkmleppaaW.PrintWords Go.Proofs.YtpkapldkmleppaaW.PrintLast Go.Proofs.YtpkapldkmleppaaW.PrintMore
set_option linter.unusedVariables false
set_option linter.unusedSimpArgs false
theorem cut_B (l : List UInt8) (h : l.length ≤ 4398046511104) : block_Cut.f (B l) = some ((cutL l).map B) := by
  unfold block_Cut.f
  rw [if_pos (by rw [B_size]; exact h), cutB, B_data]
theorem numR_ok (n s : Nat) (h0 : 1 ≤ s) (h1 : s ≤ 8) (h : n < 256 ^ s) : numR n (s : Int) = (B (be n s), 0) := by
  unfold numR
  rw [if_pos ⟨by omega, by omega, by rw [Int.toNat_natCast]; exact h⟩, Int.toNat_natCast]
theorem B_ext (l : List UInt8) (n : Nat) : (B l).extract n l.length = B (l.drop n) := by
  conv => lhs; arg 3; rw [← B_size l]
  exact B_extract_all l n
theorem piece_eq (gen i : Nat) (t : List UInt8) (hg : gen < 4294967296) (hi : i < 65536) (ht : t.length < 65536) (k : Nat) (hk : 16 ≤ k) : journal_piece.f k (gen : Int) (i : Int) (B t) = some (B (pieceL gen i t)) := by
  obtain ⟨j, rfl⟩ : ∃ j, k = j + 4 := ⟨k - 4, by omega⟩
  have n1 : pack_Num.f (j + 3) (gen : Int) 4 = some (B (be gen 4), 0) := (num_eq gen (by omega) 4 (by decide) (j + 3) (by omega)).trans (congrArg some (numR_ok gen 4 (by omega) (by omega) (by omega)))
  have n2 : pack_Num.f (j + 2) (i : Int) 2 = some (B (be i 2), 0) := (num_eq i (by omega) 2 (by decide) (j + 2) (by omega)).trans (congrArg some (numR_ok i 2 (by omega) (by omega) (by omega)))
  have n3 : pack_Num.f (j + 1) (t.length : Int) 2 = some (B (be t.length 2), 0) := (num_eq t.length (by omega) 2 (by decide) (j + 1) (by omega)).trans (congrArg some (numR_ok t.length 2 (by omega) (by omega) (by omega)))
  have hc : block_Cut.f (B (headL gen i t.length ++ t.take 24)) = some [B (pieceL gen i t)] := by
    rw [cut_B _ (by rw [List.length_append, headL_length, List.length_take]; omega), cutL_short _ (by intro e; have := congrArg List.length e; rw [List.length_append, headL_length] at this; simp at this) (by rw [List.length_append, headL_length, List.length_take]; omega)]
    rw [pad32, List.length_append, headL_length, List.length_take, show 32 - (8 + min 24 t.length) = 24 - t.length by omega]
    rfl
  unfold journal_piece.f
  rw [Option.bind_some, journal_piece.l0, if_pos (by simp), if_pos (by simp), if_pos (by simp), if_pos rfl, show rd [(gen : Int), (i : Int), ((B t).size : Int)] 0 = (gen : Int) from rfl, u64_in (by omega) (by omega), n1, Option.bind_some,
    if_pos (by rw [B_size, be_length]; decide), show wrap64 (0 + 1) = 1 from wrap64_in (by decide) (by decide),
    journal_piece.l0, if_pos (by simp), if_pos (by simp), if_pos (by simp), if_neg (by decide), show rd [(gen : Int), (i : Int), ((B t).size : Int)] 1 = (i : Int) from rfl, u64_in (by omega) (by omega), n2, Option.bind_some,
    if_pos (by rw [ByteArray.size_append, B_size, B_size, be_length, be_length]; decide), show wrap64 (1 + 1) = 2 from wrap64_in (by decide) (by decide),
    journal_piece.l0, if_pos (by simp), if_pos (by simp), if_pos (by simp), if_neg (by decide), show rd [(gen : Int), (i : Int), ((B t).size : Int)] 2 = ((B t).size : Int) from rfl, B_size, u64_in (by omega) (by omega), n3, Option.bind_some,
    if_pos (by rw [ByteArray.size_append, ByteArray.size_append, B_size, B_size, B_size, be_length, be_length, be_length]; decide), show wrap64 (2 + 1) = 3 from wrap64_in (by decide) (by decide),
    journal_piece.l0, if_neg (by simp), B_size]
  have hm : mn 24 (t.length : Int) = ((min 24 t.length : Nat) : Int) := by unfold mn; omega
  have e : (⟨#[]⟩ : ByteArray) ++ B (be gen 4) ++ B (be i 2) ++ B (be t.length 2) = B (headL gen i t.length) := by
    rw [B_nil, B_append, B_append, B_append]
    rfl
  have e2 : t.take (min 24 t.length) = t.take 24 := by
    by_cases d : t.length ≤ 24
    · rw [Nat.min_eq_right d, List.take_of_length_le (Nat.le_refl _), List.take_of_length_le d]
    · rw [Nat.min_eq_left (by omega)]
  rw [hm, if_pos (by omega), if_pos (by omega), Int.toNat_natCast, e, B_extract, List.drop_zero, e2, if_pos (by rw [B_size, B_size, headL_length, List.length_take]; omega), B_append, hc, Option.bind_some, if_pos (by simp)]
  rfl
theorem jneed_eq (n : Nat) (h : n ≤ 1000) : journal_Need.f (n : Int) = some ((needL n : Nat) : Int) := by
  unfold journal_Need.f
  rw [if_neg (by omega), if_neg (by omega), wrap64_in (n := (n : Int) + 24) (by omega) (by omega), wrap64_in (n := (n : Int) + 24 - 1) (by omega) (by omega)]
  have : Int.tdiv ((n : Int) + 24 - 1) 24 = (((n + 23) / 24 : Nat) : Int) := by
    rw [show (n : Int) + 24 - 1 = ((n + 23 : Nat) : Int) by omega, show (24 : Int) = ((24 : Nat) : Int) from rfl, ← Int.ofNat_tdiv]
  rw [this, wrap64_in (by omega) (by omega)]
  congr 1
  unfold mx needL
  split <;> omega
theorem aging_eq (gen : Int) : journal_aging.f gen = some (decide (1 ≤ gen ∧ gen ≤ 2147483647)) := by
  unfold journal_aging.f
  by_cases c : gen ≥ 1
  · rw [if_pos c]
    congr 1
    rw [decide_eq_decide]
    omega
  · rw [if_neg c]
    congr 1
    symm
    rw [decide_eq_false_iff_not]
    omega
theorem placed_eq (i : Int) : journal_placed.f i = some (decide (0 ≤ i ∧ i ≤ 128)) := by
  unfold journal_placed.f
  by_cases c : i ≥ 0
  · rw [if_pos c]
    congr 1
    rw [decide_eq_decide]
    omega
  · rw [if_neg c]
    congr 1
    symm
    rw [decide_eq_false_iff_not]
    omega
theorem pieces_loop (gen i : Nat) (hg : gen < 4294967296) : ∀ (m : Nat) (t : List UInt8) (out : List ByteArray) (k : Nat), t.length ≤ m → t.length ≤ 1000 → i + out.length + needL t.length ≤ 10000 → 17 + m ≤ k →
    journal_Pieces.l0 k (gen : Int) (i : Int) (B t) out = some (out ++ (recL gen (i + out.length) t).map B, 0)
  | m, t, out, k, hm, ht, hi, hk => by
    obtain ⟨k, rfl⟩ : ∃ j, k = j + 1 := ⟨k - 1, by omega⟩
    have hn : 1 ≤ needL t.length := by unfold needL; omega
    rw [journal_Pieces.l0, wrap64_in (by omega) (by omega), show (i : Int) + (out.length : Int) = ((i + out.length : Nat) : Int) by omega, piece_eq gen (i + out.length) t hg (by omega) (by omega) k (by omega), Option.bind_some, if_pos (by omega), Option.bind_some, B_size]
    by_cases c : t.length ≤ 24
    · rw [if_pos (by omega), recL_short _ _ _ c]
      rfl
    · match m, hm with
      | 0, hm => exact absurd hm (by omega)
      | m + 1, hm =>
        rw [if_neg (by omega), if_pos (by omega), B_ext, pieces_loop gen i hg m (t.drop 24) _ k (by rw [List.length_drop]; omega) (by rw [List.length_drop]; omega)
          (by rw [List.length_append, List.length_singleton, List.length_drop]; unfold needL at hi ⊢; omega) (by omega), recL_long _ _ _ c, List.map_cons, List.length_append, List.length_singleton, List.append_assoc, Nat.add_assoc]
        rfl
/-- the pieces of a record, or that it is refused -/
def piecesR (gen i : Int) (t : List UInt8) : List ByteArray × Int :=
  if (1 ≤ gen ∧ gen ≤ 2147483647) ∧ (0 ≤ i ∧ i ≤ 128) ∧ t.length ≤ 1000 then (if i + (needL t.length : Nat) ≤ 128 then ((recL gen.toNat i.toNat t).map B, 0) else ([], 6)) else ([], 1)
theorem pieces_eq (gen i : Int) (t : List UInt8) (ht : t.length ≤ 9000000000000) (k : Nat) (hk : 1100 ≤ k) : journal_Pieces.f k gen i (B t) = some (piecesR gen i t) := by
  obtain ⟨k, rfl⟩ : ∃ j, k = j + 1 := ⟨k - 1, by omega⟩
  unfold journal_Pieces.f
  rw [aging_eq, Option.bind_some]
  unfold piecesR
  by_cases c1 : 1 ≤ gen ∧ gen ≤ 2147483647
  · rw [decide_eq_true c1, if_pos rfl, placed_eq, Option.bind_some]
    by_cases c2 : 0 ≤ i ∧ i ≤ 128
    · rw [decide_eq_true c2, if_pos rfl, journal_Pieces.j0, B_size]
      by_cases c3 : t.length ≤ 1000
      · rw [if_neg (by rw [decide_eq_false (by omega)]; decide), jneed_eq _ c3, Option.bind_some, if_pos (show (1 ≤ gen ∧ gen ≤ 2147483647) ∧ (0 ≤ i ∧ i ≤ 128) ∧ t.length ≤ 1000 from ⟨c1, c2, c3⟩)]
        have hnl : needL t.length ≤ 42 := by unfold needL; omega
        rw [wrap64_in (by omega) (by omega)]
        by_cases c4 : i + (needL t.length : Nat) ≤ 128
        · obtain ⟨g, rfl⟩ := Int.eq_ofNat_of_zero_le (by omega : 0 ≤ gen)
          obtain ⟨n, rfl⟩ := Int.eq_ofNat_of_zero_le (by omega : 0 ≤ i)
          rw [if_neg (by omega), if_pos c4, pieces_loop g n (by omega) 1000 t [] k c3 c3 (by simp; omega) (by omega)]
          rfl
        · rw [if_pos (by omega), if_neg c4]
      · rw [if_pos (decide_eq_true (by omega)), if_neg (fun h => c3 h.2.2)]
    · rw [decide_eq_false c2, if_neg (by decide), journal_Pieces.j0, if_pos rfl, if_neg (fun h => c2 h.2.1)]
  · rw [decide_eq_false c1, if_neg (by decide), journal_Pieces.j0, if_pos rfl, if_neg (fun h => c1 h.1)]
/-- what a sector tells -/
def toldR (gen i : Nat) (s : List UInt8) : Int × ByteArray × Bool := if s.length = 32 then ((lenL s : Nat), B (txtL s), decide (okL gen i s)) else (0, B [], false)
theorem told_eq (gen i : Nat) (s : List UInt8) (hg : gen < 4294967296) (hi : i < 65536) (hs : s.length ≤ 9000000000000) (k : Nat) (hk : 20 ≤ k) : journal_told.f k (gen : Int) (i : Int) (B s) = some (toldR gen i s) := by
  unfold journal_told.f toldR
  rw [B_size]
  by_cases c : s.length = 32
  · rw [if_pos (by omega), if_pos (by omega), if_pos c, B_ext, take_eq (s.drop 6) (by rw [List.length_drop]; omega) 2 k (by omega), Option.bind_some]
    have hv : lenL s < 65536 := by
      have := val_lt ((s.drop 6).take 2)
      rw [List.length_take, List.length_drop, show min 2 (s.length - 6) = 2 by omega] at this
      exact this
    have ht : takeR (s.drop 6) 2 = (((lenL s : Nat) : Int), B (s.drop 8), 0) := by
      unfold takeR
      rw [if_pos (by decide), if_neg (by rw [List.length_drop]; simp; omega), List.drop_drop]
      rfl
    have hm : mn ((lenL s : Nat) : Int) 24 = ((min (lenL s) 24 : Nat) : Int) := by unfold mn; omega
    have hx : (txtL s).length = min (lenL s) 24 := by rw [txtL, List.length_take, List.length_drop]; omega
    rw [ht]
    simp only
    rw [wrap64_in (by omega) (by omega), hm, if_pos (by omega), B_size, List.length_drop, if_pos (by omega), Int.toNat_natCast, B_extract, List.drop_zero, show (s.drop 8).take (min (lenL s) 24) = txtL s from rfl,
      piece_eq gen i (txtL s) hg hi (by omega) k (by omega), Option.bind_some, num_eq (lenL s) (by omega) 2 (by decide) k (by omega), Option.bind_some, show (2 : Int) = ((2 : Nat) : Int) from rfl, numR_ok _ 2 (by omega) (by omega) (by omega)]
    simp only
    by_cases c2 : lenL s ≤ 1000
    · have p1 : (B (pieceL gen i (txtL s))).extract 0 6 = B (be gen 4 ++ be i 2) := by
        rw [B_extract, List.drop_zero, pieceL, headL]
        refine congrArg B ?_
        rw [List.append_assoc (be gen 4 ++ be i 2 ++ be (txtL s).length 2), List.append_assoc (be gen 4 ++ be i 2), List.take_append_of_le_length (by simp [be_length]), List.take_of_length_le (by simp [be_length])]
      have p2 : (B (pieceL gen i (txtL s))).extract 8 (B (pieceL gen i (txtL s))).size = B (txtL s ++ List.replicate (24 - (txtL s).length) 0) := by
        rw [B_extract_all, pieceL]
        refine congrArg B ?_
        rw [List.append_assoc, List.drop_append_of_le_length (by rw [headL_length]; omega), List.drop_of_length_le (by rw [headL_length]; omega), List.nil_append, List.take_of_length_le (by omega)]
      rw [if_pos (by omega), if_pos (by decide), if_pos (by rw [B_size, pieceL_length]; decide), p1, p2,
        if_pos (by rw [B_size, B_size]; simp [be_length]), if_pos (by rw [B_size, pieceL_length]; decide), B_append, if_pos (by rw [B_size, B_size]; simp [be_length]; omega), B_append, B_toList, B_toList]
      congr 3
      rw [Bool.eq_iff_iff, beq_iff_eq, decide_eq_true_eq, okL, headL]
      constructor
      · intro h
        exact ⟨c, c2, by rw [← List.append_assoc] at h; exact h⟩
      · intro h
        rw [← List.append_assoc]
        exact h.2.2
    · rw [if_neg (by omega)]
      congr 3
      symm
      rw [decide_eq_false_iff_not]
      exact fun h => c2 h.2.1
  · rw [if_neg (by omega), if_neg c]
    rfl
end Go.Proofs.Ytpkapldkmleppaa.Pl
/- What journal.Parse comes to, in plain words. -/
namespace Go.Proofs.Ytpkapldkmleppaa.Pl
open Go.RowKit Go.Proofs.Ytpkapldkmleppaa.F Go.Proofs.YtpkapldkmleppaaW.PrintWords Go.Proofs.YtpkapldkmleppaaW.PrintLast Go.Proofs.YtpkapldkmleppaaW.PrintMore
set_option linter.unusedVariables false
set_option linter.unusedSimpArgs false
set_option maxHeartbeats 2000000 in
theorem parse_loop (gen : Nat) (hg : gen < 4294967296) (l : List (List UInt8)) (hl : l.length ≤ 128) (hs : ∀ s ∈ l, s.length ≤ 9000000000000) : ∀ (rest D : List (List UInt8)) (out : List (List UInt8)) (e left : Nat) (p : List UInt8) (k : Nat),
    D ++ rest = l → left ≤ 1000 → p.length ≤ 24 * D.length → out.length ≤ D.length → 2 * rest.length + 25 ≤ k →
    journal_Parse.l0 k (gen : Int) (out.map B) (e : Int) (left : Int) (B p) (l.map B) (l.length : Int) (D.length : Int) = some ((parseL gen D.length out e left p rest).1.map B, (((parseL gen D.length out e left p rest).2 : Nat) : Int))
  | [], D, out, e, left, p, k, hD, h1, h2, h3, hk => by
    obtain ⟨k, rfl⟩ : ∃ j, k = j + 1 := ⟨k - 1, by omega⟩
    rw [List.append_nil] at hD
    subst hD
    rw [journal_Parse.l0, if_neg (by omega), parseL]
  | s :: rest, D, out, e, left, p, k, hD, h1, h2, h3, hk => by
    rw [List.length_cons] at hk
    obtain ⟨k, rfl⟩ : ∃ j, k = j + 2 := ⟨k - 2, by omega⟩
    have hll : l.length = D.length + (rest.length + 1) := by rw [← hD, List.length_append, List.length_cons]
    have hlt : D.length < l.length := by omega
    have hget : l[D.length] = s := by simp only [← hD, List.getElem_append_right (Nat.le_refl _), Nat.sub_self, List.getElem_cons_zero]
    have hsl := hs s (by rw [← hD]; exact List.mem_append_right _ List.mem_cons_self)
    rw [journal_Parse.l0, if_pos (by omega), if_pos (by omega), if_pos (by rw [List.length_map]; omega), rdOf_B l D.length hlt, hget, told_eq gen D.length s hg (by omega) hsl (k + 1) (by omega), Option.bind_some, parseL]
    by_cases c : okL gen D.length s
    · have c32 := c.1
      have hx : (txtL s).length = min (lenL s) 24 := by rw [txtL, List.length_take, List.length_drop]; omega
      have hl1000 := c.2.1
      rw [toldR, if_pos c32, decide_eq_true c]
      simp only
      rw [if_pos trivial]
      have hj : ∀ b : Bool, b = decide (0 < left ∧ lenL s ≠ left) → journal_Parse.j2 (k + 1) (gen : Int) (out.map B) (e : Int) (B p) (D.length : Int) (lenL s : Nat) (B (txtL s)) (l.map B) (l.length : Int) (D.length : Int) b =
          some ((if okL gen D.length s ∧ ¬ (0 < left ∧ lenL s ≠ left) then
      (if lenL s - (txtL s).length = 0 then parseL gen (D.length + 1) (out ++ [p ++ txtL s]) (D.length + 1) 0 [] rest else parseL gen (D.length + 1) out e (lenL s - (txtL s).length) (p ++ txtL s) rest)
    else (out, e)).1.map B, (((if okL gen D.length s ∧ ¬ (0 < left ∧ lenL s ≠ left) then
      (if lenL s - (txtL s).length = 0 then parseL gen (D.length + 1) (out ++ [p ++ txtL s]) (D.length + 1) 0 [] rest else parseL gen (D.length + 1) out e (lenL s - (txtL s).length) (p ++ txtL s) rest)
    else (out, e)).2 : Nat) : Int)) := fun b hb => by
        rw [journal_Parse.j2]
        by_cases d : 0 < left ∧ lenL s ≠ left
        · rw [if_pos (show b = true by rw [hb]; exact decide_eq_true d), if_neg (fun h : okL gen D.length s ∧ ¬ (0 < left ∧ lenL s ≠ left) => h.2 d)]
        · have hD1 : (D ++ [s]).length = D.length + 1 := by simp
          have hDa : (D ++ [s]) ++ rest = l := by rw [List.append_assoc]; exact hD
          have hpl : (p ++ txtL s).length ≤ 24 * (D ++ [s]).length := by rw [List.length_append, hD1]; omega
          have q1 : p.length + (txtL s).length ≤ 9223372036854775807 := by omega
          have q2 : (out.map B).length < 8796093022208 := by rw [List.length_map]; omega
          have q3 : (out ++ [p ++ txtL s]).length ≤ (D ++ [s]).length := by rw [hD1, List.length_append, List.length_singleton]; omega
          have q4 : 2 * rest.length + 25 ≤ k := by omega
          have q5 : out.length ≤ (D ++ [s]).length := by rw [hD1]; omega
          have q6 : lenL s - (txtL s).length ≤ 1000 := by omega
          have q7 : ((lenL s - (txtL s).length : Nat) : Int) = 0 ↔ lenL s - (txtL s).length = 0 := by omega
          have hw : wrap64 (((lenL s : Nat) : Int) - (((txtL s).length : Nat) : Int)) = ((lenL s - (txtL s).length : Nat) : Int) := by rw [wrap64_in (by omega) (by omega)]; omega
          have hw1 : wrap64 ((D.length : Int) + 1) = (((D ++ [s]).length : Nat) : Int) := by clear hw; rw [wrap64_in (by omega) (by omega), hD1]; omega
          rw [if_neg (show ¬ b = true by rw [hb, decide_eq_false d]; decide), if_pos (show okL gen D.length s ∧ ¬ (0 < left ∧ lenL s ≠ left) from ⟨c, d⟩), B_size, B_size, if_pos q1, hw, B_append]
          by_cases d2 : lenL s - (txtL s).length = 0
          · have hm : out.map B ++ [B (p ++ txtL s)] = (out ++ [p ++ txtL s]).map B := by rw [List.map_append]; rfl
            have := parse_loop gen hg l hl hs rest (D ++ [s]) (out ++ [p ++ txtL s]) (D ++ [s]).length 0 [] k hDa (Nat.zero_le _) (Nat.zero_le _) q3 q4
            rw [if_pos (q7.2 d2), if_pos q2, if_pos d2, hw1, d2, hm, ← hD1]
            exact this
          · have := parse_loop gen hg l hl hs rest (D ++ [s]) out e (lenL s - (txtL s).length) (p ++ txtL s) k hDa q6 hpl q5 q4
            rw [if_neg (fun h => d2 (q7.1 h)), if_neg d2, hw1, ← hD1]
            exact this
      by_cases d0 : 0 < left
      · rw [if_pos (by omega)]
        refine hj _ ?_
        by_cases d1 : lenL s = left
        · rw [d1, decide_eq_false (fun h => h.2 rfl)]
          simp
        · rw [decide_eq_true ⟨d0, d1⟩]
          simp only [bne_iff_ne, ne_eq, Int.ofNat_inj, d1, not_false_eq_true]
      · rw [if_neg (by omega)]
        exact hj _ (by rw [decide_eq_false (fun h => d0 h.1)])
    · have hf : (toldR gen D.length s).2.2 = false := by
        unfold toldR
        split
        · exact decide_eq_false c
        · rfl
      rw [hf, if_neg (by decide), journal_Parse.j2, if_pos rfl, if_neg (fun h : okL gen D.length s ∧ ¬ (0 < left ∧ lenL s ≠ left) => c h.1)]
/-- the records that stand in pieces -/
def parseR (gen : Int) (l : List (List UInt8)) : List (List UInt8) × Nat := if (1 ≤ gen ∧ gen ≤ 2147483647) ∧ l.length ≤ 128 then parseL gen.toNat 0 [] 0 0 [] l else ([], 0)
theorem parse_eq (gen : Int) (l : List (List UInt8)) (hl : l.length ≤ 9000000000000) (hs : ∀ s ∈ l, s.length ≤ 9000000000000) (k : Nat) (hk : 300 ≤ k) : journal_Parse.f k gen (l.map B) = some ((parseR gen l).1.map B, (((parseR gen l).2 : Nat) : Int)) := by
  obtain ⟨k, rfl⟩ : ∃ j, k = j + 1 := ⟨k - 1, by omega⟩
  unfold journal_Parse.f parseR
  rw [aging_eq, Option.bind_some, List.length_map]
  by_cases c1 : 1 ≤ gen ∧ gen ≤ 2147483647
  · rw [decide_eq_true c1, if_pos rfl, journal_Parse.j0]
    by_cases c2 : l.length ≤ 128
    · obtain ⟨g, rfl⟩ := Int.eq_ofNat_of_zero_le (by omega : 0 ≤ gen)
      have := parse_loop g (by omega) l c2 hs l [] [] 0 0 [] k rfl (by omega) (by simp) (by simp) (by omega)
      rw [if_neg (by rw [decide_eq_false (by omega)]; decide), if_pos ⟨c1, c2⟩, List.length_map]
      exact this
    · rw [if_pos (decide_eq_true (by omega)), if_neg (fun h => c2 h.2)]
      rfl
  · rw [decide_eq_false c1, if_neg (by decide), journal_Parse.j0, if_pos rfl, if_neg (fun h => c1 h.1)]
    rfl
end Go.Proofs.Ytpkapldkmleppaa.Pl
/- What the functions of the disk come to, in plain words on lists; no condition but those that each theorem names. -/
namespace Go.Proofs.Ytpkapldkmleppaa.Pl
open Go.RowKit Go.Proofs.Ytpkapldkmleppaa.F Go.Proofs.YtpkapldkmleppaaW.PrintWords Go.Proofs.YtpkapldkmleppaaW.PrintLast Go.Proofs.YtpkapldkmleppaaW.PrintMore
set_option linter.unusedVariables false
set_option linter.unusedSimpArgs false
abbrev Wr := F.S76
def datas (l : List ByteArray) : List UInt8 := (l.map (·.data.toList)).flatten
theorem joinB_eq (l : List ByteArray) : joinB l ⟨#[]⟩ = B (datas l) := by
  show (⟨(Lib.join (l.map (·.data.toList)) []).toArray⟩ : ByteArray) = _
  rw [joinB_nil]
  rfl
theorem right_iff (S : List ByteArray) (W : List Wr) : disk_right S W = true ↔ 1 ≤ S.length ∧ S.length ≤ 512 ∧ (∀ s ∈ S, s.size = 32) ∧ ∀ x ∈ W, x.f1.size = 32 ∧ 0 ≤ x.f0 ∧ x.f0 < (S.length : Int) := by
  simp only [disk_right, Bool.and_eq_true, decide_eq_true_eq, Bool.not_eq_true', List.any_eq_false, wBad, Bool.or_eq_true, not_or, bne_iff_ne, ne_eq, Decidable.not_not]
  constructor
  · rintro ⟨⟨⟨a, b⟩, c⟩, d⟩
    refine ⟨a, b, c, fun x hx => ?_⟩
    obtain ⟨h1, h2⟩ := d x hx
    refine ⟨h1, ?_⟩
    simpa using h2
  · rintro ⟨a, b, c, d⟩
    refine ⟨⟨⟨a, b⟩, c⟩, fun x hx => ?_⟩
    obtain ⟨h1, h2, h3⟩ := d x hx
    refine ⟨h1, ?_⟩
    simp [h2, h3]
theorem there_iff (N : Nat) (a n : Int) : thereB N a n = true ↔ 0 ≤ n ∧ n ≤ N ∧ 0 ≤ a ∧ a ≤ N - n := by
  simp [thereB, and_assoc]
theorem fit_of {S : List ByteArray} {W : List Wr} (hS : S.length ≤ 100000) (hW : W.length ≤ 100000) : disk_fit S W = true := by
  simp [disk_fit]
  omega
theorem zero32_size : zero32.size = 32 := by decide
theorem lasting_right {S : List ByteArray} {W : List Wr} (h : disk_right S W = true) (kept : Nat → Bool) : lastingW kept S W = (applyW kept 0 W S, []) := by simp [lastingW, h]
theorem Read_ok {S : List ByteArray} {W : List Wr} (hf : disk_fit S W = true) (h : disk_right S W = true) {a n : Int} (ht : thereB S.length a n = true) :
    disk_Read.f S W a n = some (B (datas (((applyW (fun _ => true) 0 W S).take (a + n).toNat).drop a.toNat)), 0) := by
  unfold disk_Read.f
  rw [if_pos hf, if_pos (by rw [h, ht]; rfl), readB, joinB_eq, lasting_right h]
theorem Read_bad {S : List ByteArray} {W : List Wr} (hf : disk_fit S W = true) {a n : Int} (h : (disk_right S W && thereB S.length a n) = false) : disk_Read.f S W a n = some (⟨#[]⟩, 1) := by
  unfold disk_Read.f
  rw [if_pos hf, h, if_neg (by decide)]
theorem Put_ok {S : List ByteArray} {W : List Wr} (hf : disk_fit S W = true) (h : disk_right S W = true) {a : Int} {T : List ByteArray} (ht : thereB S.length a (T.length : Int) = true) (hT : ∀ t ∈ T, t.size = 32) :
    disk_Put.f S W a T = some (S, W ++ putW a T, 0) := by
  unfold disk_Put.f
  have : (T.any fun s => s.size != 32) = false := by
    rw [List.any_eq_false]
    intro t ht
    simp [hT t ht]
  rw [if_pos hf, if_pos (by rw [h, ht, this]; rfl)]
theorem Put_bad {S : List ByteArray} {W : List Wr} (hf : disk_fit S W = true) {a : Int} {T : List ByteArray} (h : (disk_right S W && thereB S.length a (T.length : Int) && !(T.any fun s => s.size != 32)) = false) :
    disk_Put.f S W a T = some (S, W, 1) := by
  unfold disk_Put.f
  rw [if_pos hf, h, if_neg (by decide)]
theorem new_right {n : Nat} (h1 : 1 ≤ n) (h2 : n ≤ 512) : disk_right (List.replicate n zero32) [] = true := by
  rw [right_iff]
  refine ⟨by simpa using h1, by simpa using h2, fun s hs => by rw [(List.mem_replicate.1 hs).2]; exact zero32_size, fun x hx => by cases hx⟩
end Go.Proofs.Ytpkapldkmleppaa.Pl
/- The image of a disk: what its sectors would be, were it flushed. -/
namespace Go.Proofs.Ytpkapldkmleppaa.Pl
open Go.RowKit Go.Proofs.Ytpkapldkmleppaa.F Go.Proofs.YtpkapldkmleppaaW.PrintWords Go.Proofs.YtpkapldkmleppaaW.PrintLast Go.Proofs.YtpkapldkmleppaaW.PrintMore
set_option linter.unusedVariables false
set_option linter.unusedSimpArgs false
abbrev alw : Nat → Bool := fun _ => true
def ovr {α : Type} (a : Nat) (T S : List α) : List α := S.take a ++ T ++ S.drop (a + T.length)
theorem ovr_map {α β : Type} (f : α → β) (a : Nat) (T S : List α) : (ovr a T S).map f = ovr a (T.map f) (S.map f) := by
  simp only [ovr, List.map_append, List.map_take, List.map_drop, List.length_map]
theorem put_ovr : ∀ (T : List ByteArray) (a n : Nat) (S : List ByteArray), a + T.length ≤ S.length → applyW alw n (putW (a : Int) T) S = ovr a T S
  | [], a, n, S, h => by rw [putW, applyW, ovr, List.append_nil, List.length_nil, Nat.add_zero, List.take_append_drop]
  | t :: T, a, n, S, h => by
    rw [List.length_cons] at h
    have hs : S.set a t = S.take a ++ t :: S.drop (a + 1) := by rw [List.set_eq_take_append_cons_drop, if_pos (by omega)]
    have hl : (S.take a).length = a := by rw [List.length_take]; omega
    rw [putW, applyW, if_pos rfl, show ((a : Int) + 1) = ((a + 1 : Nat) : Int) by omega, Int.toNat_natCast, put_ovr T (a + 1) _ _ (by rw [List.length_set]; omega), hs, ovr, ovr, List.length_cons]
    have e1 : (S.take a ++ t :: S.drop (a + 1)).take (a + 1) = S.take a ++ [t] := by
      rw [List.take_append, hl, List.take_of_length_le (by omega), show a + 1 - a = 1 by omega]
      rfl
    have e2 : (S.take a ++ t :: S.drop (a + 1)).drop (a + 1 + T.length) = S.drop (a + (T.length + 1)) := by
      rw [List.drop_append, hl, List.drop_of_length_le (by omega), show a + 1 + T.length - a = T.length + 1 by omega, List.nil_append, List.drop_succ_cons, List.drop_drop]
      congr 1
      omega
    rw [e1, e2, List.append_assoc, List.append_assoc, List.append_assoc]
    rfl
theorem applyW_app (kept : Nat → Bool) : ∀ (W V : List Wr) (i : Nat) (S : List ByteArray), applyW kept i (W ++ V) S = applyW kept (i + W.length) V (applyW kept i W S)
  | [], V, i, S => rfl
  | x :: W, V, i, S => by
    rw [List.cons_append, applyW, applyW_app kept W, applyW, List.length_cons, show i + 1 + W.length = i + (W.length + 1) by omega]
theorem mem_put : ∀ (T : List ByteArray) (a : Int) (x : Wr), x ∈ putW a T → x.f1 ∈ T ∧ a ≤ x.f0 ∧ x.f0 < a + T.length
  | [], a, x, h => by cases h
  | t :: T, a, x, h => by
    rw [putW, List.mem_cons] at h
    rcases h with rfl | h
    · exact ⟨List.mem_cons_self, Int.le_refl _, by simp only [List.length_cons]; omega⟩
    · obtain ⟨h1, h2, h3⟩ := mem_put T (a + 1) x h
      exact ⟨List.mem_cons_of_mem _ h1, by omega, by simp only [List.length_cons]; omega⟩
/-- the disk's image is I; not more than n writes wait -/
structure Img (n : Nat) (S : List ByteArray) (W : List Wr) (I : List (List UInt8)) : Prop where
  few : W.length ≤ n
  right : disk_right S W = true
  img : applyW alw 0 W S = I.map B
theorem Img.len {n : Nat} {S : List ByteArray} {W : List Wr} {I : List (List UInt8)} (h : Img n S W I) : I.length = S.length := by
  rw [← applyW_length alw W 0 S, h.img, List.length_map]
theorem Img.le {n : Nat} {S : List ByteArray} {W : List Wr} {I : List (List UInt8)} (h : Img n S W I) : S.length ≤ 512 := ((right_iff S W).1 h.right).2.1
theorem Img.fit {n : Nat} {S : List ByteArray} {W : List Wr} {I : List (List UInt8)} (h : Img n S W I) (hn : n ≤ 100000) : disk_fit S W = true := fit_of (by have := h.le; omega) (by have := h.few; omega)
theorem Img.all32 {n : Nat} {S : List ByteArray} {W : List Wr} {I : List (List UInt8)} (h : Img n S W I) : ∀ s ∈ I, s.length = 32 := by
  obtain ⟨_, _, h3, h4⟩ := (right_iff S W).1 h.right
  intro s hs
  have := applyW_32 alw W 0 S (fun x hx => (h4 x hx).1) h3 (B s) (by rw [h.img]; exact List.mem_map_of_mem hs)
  rw [B_size] at this
  exact this
theorem Img.new : Img 0 (List.replicate 130 zero32) [] (List.replicate 130 (List.replicate 32 0)) := ⟨Nat.le_refl _, new_right (by omega) (by omega), by rw [List.map_replicate]; rfl⟩
theorem datas_B (I : List (List UInt8)) : datas (I.map B) = I.flatten := by
  rw [datas, List.map_map]
  congr 1
  conv => rhs; rw [← List.map_id I]
  exact List.map_congr_left (fun x _ => B_data x)
theorem Img.read {n : Nat} {S : List ByteArray} {W : List Wr} {I : List (List UInt8)} (h : Img n S W I) (hn : n ≤ 100000) (a m : Nat) (ha : a + m ≤ S.length) : disk_Read.f S W (a : Int) (m : Int) = some (B ((I.take (a + m)).drop a).flatten, 0) := by
  rw [Read_ok (h.fit hn) h.right ((there_iff _ _ _).2 ⟨by omega, by omega, by omega, by omega⟩), h.img, Int.toNat_natCast, show ((a : Int) + (m : Int)).toNat = a + m by omega, ← List.map_take, ← List.map_drop, datas_B]
theorem Img.put {n : Nat} {S : List ByteArray} {W : List Wr} {I : List (List UInt8)} (h : Img n S W I) (hn : n ≤ 100000) (a : Nat) (T : List (List UInt8)) (ha : a + T.length ≤ S.length) (hT : ∀ t ∈ T, t.length = 32) :
    disk_Put.f S W (a : Int) (T.map B) = some (S, W ++ putW (a : Int) (T.map B), 0) ∧ Img (n + T.length) S (W ++ putW (a : Int) (T.map B)) (ovr a T I) := by
  have hT2 : ∀ t ∈ T.map B, t.size = 32 := fun t ht => by
    obtain ⟨x, hx, rfl⟩ := List.mem_map.1 ht
    rw [B_size]
    exact hT x hx
  refine ⟨Put_ok (h.fit hn) h.right ((there_iff _ _ _).2 ⟨by omega, by rw [List.length_map]; omega, by omega, by rw [List.length_map]; omega⟩) hT2, ?_, ?_, ?_⟩
  · rw [List.length_append, putW_length, List.length_map]
    have := h.few
    omega
  · obtain ⟨h1, h2, h3, h4⟩ := (right_iff S W).1 h.right
    refine (right_iff S _).2 ⟨h1, h2, h3, fun x hx => ?_⟩
    rcases List.mem_append.1 hx with hx | hx
    · exact h4 x hx
    · obtain ⟨k1, k2, k3⟩ := mem_put _ _ _ hx
      rw [List.length_map] at k3
      exact ⟨hT2 _ k1, by omega, by omega⟩
  · rw [applyW_app, h.img, put_ovr _ _ _ _ (by rw [List.length_map, List.length_map, h.len]; omega), ← ovr_map]
end Go.Proofs.Ytpkapldkmleppaa.Pl
/- What journal.Texts and journal.Append come to on a disk of 130 sectors, in plain words. -/
namespace Go.Proofs.Ytpkapldkmleppaa.Pl
open Go.RowKit Go.Proofs.Ytpkapldkmleppaa.F Go.Proofs.YtpkapldkmleppaaW.PrintWords Go.Proofs.YtpkapldkmleppaaW.PrintLast Go.Proofs.YtpkapldkmleppaaW.PrintMore
set_option linter.unusedVariables false
set_option linter.unusedSimpArgs false
theorem Img.texts {n : Nat} {S : List ByteArray} {W : List Wr} {I : List (List UInt8)} (h : Img n S W I) (hn : n ≤ 100000) (h130 : S.length = 130) (gen : Int) (k : Nat) (hk : 300 ≤ k) :
    journal_Texts.f k S W gen = some ((parseR gen (I.drop 2)).1.map B, (((parseR gen (I.drop 2)).2 : Nat) : Int), 0) := by
  have hI : I.length = 130 := by rw [h.len, h130]
  have h32 := h.all32
  unfold journal_Texts.f
  rw [show (2 : Int) = ((2 : Nat) : Int) from rfl, show (128 : Int) = ((128 : Nat) : Int) from rfl, h.read hn 2 128 (by omega), Option.bind_some, if_pos rfl, List.take_of_length_le (by omega)]
  have hd : ∀ s ∈ I.drop 2, s.length = 32 := fun s hs => h32 s (List.mem_of_mem_drop hs)
  have hfl : (I.drop 2).flatten.length ≤ 4398046511104 := by
    have : ∀ L : List (List UInt8), (∀ s ∈ L, s.length = 32) → L.flatten.length = 32 * L.length := by
      intro L
      induction L with
      | nil => intro _; rfl
      | cons x r ih => intro hh; rw [List.flatten_cons, List.length_append, ih (fun s hs => hh s (List.mem_cons_of_mem _ hs)), hh x List.mem_cons_self, List.length_cons]; omega
    rw [this _ hd, List.length_drop]
    omega
  rw [cut_B _ hfl, Option.bind_some, cutL_flatten _ hd, parse_eq gen _ (by rw [List.length_drop]; omega) (fun s hs => by rw [hd s hs]; omega) k hk]
  rfl
theorem append_loop (gen at_ : Nat) (hg : 1 ≤ gen ∧ gen ≤ 2147483647) (S : List ByteArray) (W : List Wr) (l : List (List UInt8)) (hl : l.length ≤ 1000000) : ∀ (rest D : List (List UInt8)) (out : List (List UInt8)) (k : Nat),
    D ++ rest = l → (∀ t ∈ rest, t.length ≤ 1000) → at_ + out.length ≤ 128 → 1200 + rest.length ≤ k →
    journal_Append.l0 k (gen : Int) (at_ : Int) (out.map B) (l.map B) (l.length : Int) (D.length : Int) S W =
      if at_ + out.length + (recsL gen (at_ + out.length) rest).length ≤ 128 then journal_Append.l0 (k - rest.length) (gen : Int) (at_ : Int) ((out ++ recsL gen (at_ + out.length) rest).map B) (l.map B) (l.length : Int) (l.length : Int) S W else some (S, W, (at_ : Int), 6)
  | [], D, out, k, hD, h1, h2, hk => by
    rw [List.append_nil] at hD
    subst hD
    rw [recsL, if_pos (by simpa using h2), List.append_nil]
    rfl
  | t :: rest, D, out, k, hD, h1, h2, hk => by
    rw [List.length_cons] at hk
    obtain ⟨k, rfl⟩ : ∃ j, k = j + 1 := ⟨k - 1, by omega⟩
    have hll : l.length = D.length + (rest.length + 1) := by rw [← hD, List.length_append, List.length_cons]
    have hlt : D.length < l.length := by omega
    have hget : l[D.length] = t := by simp only [← hD, List.getElem_append_right (Nat.le_refl _), Nat.sub_self, List.getElem_cons_zero]
    have ht := h1 t List.mem_cons_self
    have hrl := recL_length t.length gen (at_ + out.length) t (Nat.le_refl _)
    have hlx : (recsL gen (at_ + out.length) (t :: rest)).length = needL t.length + (recsL gen (at_ + out.length + needL t.length) rest).length := by rw [recsL, List.length_append, hrl]
    have e0 : (D.length : Int) < (l.length : Int) := by omega
    have e1 : (0 : Int) ≤ (D.length : Int) := by omega
    have e2 : (D.length : Int) < ((l.map B).length : Int) := by rw [List.length_map]; exact e0
    have e3 : wrap64 ((at_ : Int) + ((out.map B).length : Int)) = ((at_ + out.length : Nat) : Int) := by rw [List.length_map, wrap64_in (by omega) (by omega)]; omega
    have e4 : wrap64 ((D.length : Int) + 1) = (((D ++ [t]).length : Nat) : Int) := by clear e3; rw [wrap64_in (by omega) (by omega), List.length_append, List.length_singleton]; omega
    have q1 : (1 ≤ ((gen : Nat) : Int) ∧ ((gen : Nat) : Int) ≤ 2147483647) ∧ (0 ≤ ((at_ + out.length : Nat) : Int) ∧ ((at_ + out.length : Nat) : Int) ≤ 128) ∧ t.length ≤ 1000 := by clear e3 e4; exact ⟨⟨by omega, by omega⟩, ⟨by omega, by omega⟩, ht⟩
    have q2 : (((at_ + out.length : Nat) : Int) + ((needL t.length : Nat) : Int) ≤ 128) ↔ at_ + out.length + needL t.length ≤ 128 := by clear e3 e4; omega
    have q3 : t.length ≤ 9000000000000 := by clear e3 e4; omega
    have q4 : 1100 ≤ k := by clear e3 e4; omega
    rw [journal_Append.l0, if_pos e0, if_pos e1, if_pos e2, e3, rdOf_B l D.length hlt, hget, pieces_eq _ _ t q3 k q4, Option.bind_some, piecesR, if_pos q1]
    by_cases c : at_ + out.length + needL t.length ≤ 128
    · rw [if_pos (q2.2 c), Int.toNat_natCast, Int.toNat_natCast]
      simp only
      have hm : out.map B ++ (recL gen (at_ + out.length) t).map B = (out ++ recL gen (at_ + out.length) t).map B := by rw [List.map_append]
      have hol : (out ++ recL gen (at_ + out.length) t).length = out.length + needL t.length := by rw [List.length_append, hrl]
      have q5 : (out.map B).length + ((recL gen (at_ + out.length) t).map B).length < 8796093022208 := by clear e3 e4; rw [List.length_map, List.length_map, hrl]; omega
      have := append_loop gen at_ hg S W l hl rest (D ++ [t]) (out ++ recL gen (at_ + out.length) t) k (by rw [List.append_assoc]; exact hD) (fun x hx => h1 x (List.mem_cons_of_mem _ hx)) (by clear e3 e4; rw [hol]; omega) (by clear e3 e4; omega)
      rw [if_pos trivial, if_pos q5, e4, hm, this, hol, ← Nat.add_assoc, hlx, recsL, List.append_assoc, Nat.add_assoc (at_ + out.length), List.length_cons, show k + 1 - (rest.length + 1) = k - rest.length by clear e3 e4; omega]
    · rw [if_neg (fun hh => c (q2.1 hh))]
      simp only
      rw [if_neg (show ¬ at_ + out.length + (recsL gen (at_ + out.length) (t :: rest)).length ≤ 128 by rw [hlx]; clear e3 e4; omega)]
      first | exact if_neg (fun h => h) | exact if_neg (by decide) | rfl
theorem Img.append {n : Nat} {S : List ByteArray} {W : List Wr} {I : List (List UInt8)} (h : Img n S W I) (hn : n ≤ 100000) (h130 : S.length = 130) (gen at_ : Nat) (hg : 1 ≤ gen ∧ gen ≤ 2147483647) (ha : at_ ≤ 128) (l : List (List UInt8)) (hl : l.length ≤ 1000) (ht : ∀ t ∈ l, t.length ≤ 1000) (k : Nat) (hk : 2500 ≤ k) :
    journal_Append.f k S W (gen : Int) (at_ : Int) (l.map B) =
      if at_ + (recsL gen at_ l).length ≤ 128 then some (S, W ++ putW ((2 + at_ : Nat) : Int) ((recsL gen at_ l).map B), ((at_ + (recsL gen at_ l).length : Nat) : Int), 0) else some (S, W, (at_ : Int), 6) := by
  obtain ⟨k, rfl⟩ : ∃ j, k = j + 1 := ⟨k - 1, by omega⟩
  unfold journal_Append.f
  rw [show (2 : Int) = ((2 : Nat) : Int) from rfl, show (128 : Int) = ((128 : Nat) : Int) from rfl, h.read hn 2 128 (by omega), Option.bind_some, if_pos rfl, aging_eq, Option.bind_some, decide_eq_true (by omega), if_pos rfl, placed_eq, Option.bind_some, decide_eq_true (by omega), journal_Append.j0, if_neg (by decide), List.length_map]
  have := append_loop gen at_ hg S W l (by omega) l [] [] k rfl ht (by simpa using ha) (by omega)
  simp only [List.map_nil, List.length_nil, Nat.add_zero, List.nil_append] at this
  rw [show (0 : Int) = ((0 : Nat) : Int) from rfl, this]
  by_cases c : at_ + (recsL gen at_ l).length ≤ 128
  · rw [if_pos c, if_pos c]
    obtain ⟨j, hj⟩ : ∃ j, k - l.length = j + 1 := ⟨k - l.length - 1, by omega⟩
    have e1 : wrap64 (((2 : Nat) : Int) + (at_ : Int)) = ((2 + at_ : Nat) : Int) := by rw [wrap64_in (by omega) (by omega)]; omega
    have e2 : wrap64 ((at_ : Int) + (((recsL gen at_ l).map B).length : Int)) = ((at_ + (recsL gen at_ l).length : Nat) : Int) := by clear e1; rw [List.length_map, wrap64_in (by omega) (by omega)]; omega
    have hp := h.put hn (2 + at_) (recsL gen at_ l) (by clear e1 e2; omega) (recsL_32 gen l at_)
    rw [hj, journal_Append.l0, if_neg (by clear e1 e2; omega), show (2 : Int) = ((2 : Nat) : Int) from rfl, e1, hp.1, Option.bind_some]
    simp only
    rw [if_pos trivial, e2]
    rfl
  · rw [if_neg c, if_neg c]
end Go.Proofs.Ytpkapldkmleppaa.Pl
/- What weirkeeperref01.Same comes to; loops over short texts. -/
namespace Go.Proofs.Ytpkapldkmleppaa.Pl
open Go.RowKit Go.Proofs.Ytpkapldkmleppaa.F Go.Proofs.YtpkapldkmleppaaW.PrintWords Go.Proofs.YtpkapldkmleppaaW.PrintLast Go.Proofs.YtpkapldkmleppaaW.PrintMore
set_option linter.unusedVariables false
set_option linter.unusedSimpArgs false
theorem same01_loop (a b : List (List UInt8)) (hn : a.length ≤ 9223372036854775806) (hab : a.length = b.length) (d : Nat) : ∀ (k i : Nat), i + d = a.length → d < k →
    weirkeeperref01_Same.l0 k (a.map B) (b.map B) (i : Int) = some (decide (a.drop i = b.drop i)) := by
  induction d with
  | zero =>
    intro k i hi hk
    obtain ⟨k, rfl⟩ : ∃ m, k = m + 1 := ⟨k - 1, by omega⟩
    simp only [weirkeeperref01_Same.l0]
    rw [List.length_map, if_neg (by omega), List.drop_of_length_le (by omega), List.drop_of_length_le (by omega)]
    simp
  | succ d ih =>
    intro k i hi hk
    obtain ⟨k, rfl⟩ : ∃ m, k = m + 1 := ⟨k - 1, by omega⟩
    have w4 : wrap64 ((i : Int) + 1) = ((i + 1 : Nat) : Int) := by rw [wrap64_in (by omega) (by omega)]; omega
    have h1 : i < a.length := by omega
    have h2 : i < b.length := by omega
    have r1 : rdOf ByteArray.empty (a.map B) (i : Int) = B a[i] := by simp [rdOf, h1]
    have r2 : rdOf ByteArray.empty (b.map B) (i : Int) = B b[i] := by simp [rdOf, h2]
    simp only [weirkeeperref01_Same.l0]
    rw [List.length_map, List.length_map, if_pos (by omega), if_pos (by omega), if_pos (by omega), r1, r2, B_toList, B_toList, w4, List.drop_eq_getElem_cons h1, List.drop_eq_getElem_cons h2]
    by_cases e : a[i] = b[i]
    · rw [if_pos e, ih k (i + 1) (by omega) (by omega)]
      simp only [List.cons.injEq, e, true_and]
    · rw [if_neg e]
      simp only [List.cons.injEq, e, false_and, decide_false]

theorem same01_eq (a b : List (List UInt8)) (hn : a.length ≤ 9223372036854775806) (k : Nat) (hk : a.length + 1 ≤ k) : weirkeeperref01_Same.f k (a.map B) (b.map B) = some (decide (a = b)) := by
  unfold weirkeeperref01_Same.f
  rw [List.length_map, List.length_map]
  by_cases h : a.length = b.length
  · have := same01_loop a b hn h a.length k 0 (by omega) (by omega)
    rw [if_pos (by omega)]
    simpa using this
  · rw [if_neg (by omega)]
    congr 1
    symm
    rw [decide_eq_false_iff_not]
    intro e
    exact h (by rw [e])
theorem strs_of (l : List ByteArray) : l = (l.map fun s => s.data.toList).map B := by
  rw [List.map_map]
  conv => lhs; rw [← List.map_id l]
  apply List.map_congr_left
  intro s _
  exact B_of s


/-- a loop that looks whether texts are short; behind it the rest; else the fixed answer -/
theorem short_loop {g : Nat → Int → Option Bool} {aw fin : Nat → Option Bool} (x : List (List UInt8)) (C K : Nat) (n : Int) (hn : n = (x.length : Int))
    (step : ∀ k i, g (k + 1) i = if i < n then (if 0 ≤ i then (if i < ((x.map B).length : Int) then (if ((rdOf ByteArray.empty (x.map B) i).size : Int) > (C : Int) then aw k else g k (wrap64 (i + 1))) else none) else none) else fin k)
    (haw : ∀ k, K ≤ k → aw k = some true) (hfin : (∀ s ∈ x, s.length ≤ C) → ∀ k, K ≤ k → fin k = some true) (hx : x.length ≤ 9223372036854775806) :
    ∀ (d i k : Nat), i + d = x.length → K + d + 1 ≤ k → (∀ s ∈ x.take i, s.length ≤ C) → g k (i : Int) = some true
  | 0, i, k, hi, hk, hs => by
    obtain ⟨k, rfl⟩ : ∃ m, k = m + 1 := ⟨k - 1, by omega⟩
    rw [step, if_neg (by omega)]
    rw [List.take_of_length_le (by omega)] at hs
    exact hfin hs k (by omega)
  | d + 1, i, k, hi, hk, hs => by
    obtain ⟨k, rfl⟩ : ∃ m, k = m + 1 := ⟨k - 1, by omega⟩
    have h1 : i < x.length := by omega
    have r1 : rdOf ByteArray.empty (x.map B) (i : Int) = B x[i] := by simp [rdOf, h1]
    rw [step, if_pos (by omega), if_pos (by omega), if_pos (by rw [List.length_map]; omega), r1, B_size]
    by_cases c : x[i].length ≤ C
    · rw [if_neg (by omega), wrap64_in (by omega) (by omega), show ((i : Int) + 1) = ((i + 1 : Nat) : Int) by omega]
      refine short_loop x C K n hn step haw hfin hx d (i + 1) k (by omega) (by omega) fun s hs' => ?_
      rw [List.take_succ_eq_append_getElem h1] at hs'
      rcases List.mem_append.1 hs' with hs' | hs'
      · exact hs s hs'
      · rw [List.mem_singleton.1 hs']
        exact c
    · rw [if_pos (by omega)]
      exact haw k (by omega)
end Go.Proofs.Ytpkapldkmleppaa.Pl
/- The fixed answer of chapter 8 is true: reckoned by the kernel. -/
namespace Go.Proofs.Ytpkapldkmleppaa.Pl
open Go.Proofs.Ytpkapldkmleppaa.F
theorem awake8 : weirkeeperlaw08_awake.f 3000 = some true := by kernel_rfl
end Go.Proofs.Ytpkapldkmleppaa.Pl
/- More of records in pieces: parts of records, sectors of other Gens. No program here. -/
namespace Go.Proofs.Ytpkapldkmleppaa.Pl
open Go.RowKit Go.Proofs.YtpkapldkmleppaaW.PrintWords Go.Proofs.YtpkapldkmleppaaW.PrintMore
set_option linter.unusedVariables false
set_option linter.unusedSimpArgs false
end Go.Proofs.Ytpkapldkmleppaa.Pl
/- More of what is written over: parts of writes, and crashes. -/
namespace Go.Proofs.Ytpkapldkmleppaa.Pl
open Go.RowKit Go.Proofs.Ytpkapldkmleppaa.F Go.Proofs.YtpkapldkmleppaaW.PrintWords Go.Proofs.YtpkapldkmleppaaW.PrintLast Go.Proofs.YtpkapldkmleppaaW.PrintMore
set_option linter.unusedVariables false
set_option linter.unusedSimpArgs false
theorem awakeAt (k : Nat) (hk : 3000 ≤ k) : weirkeeperlaw08_awake.f k = some true := at_rounds weirkeeperlaw08_awake.mono hk awake8
theorem putW_append : ∀ (T U : List ByteArray) (a : Int), putW a (T ++ U) = putW a T ++ putW (a + T.length) U
  | [], U, a => by simp [putW]
  | t :: T, U, a => by
    rw [List.cons_append, putW, putW_append T U, putW, List.cons_append, List.length_cons]
    congr 3
    omega
end Go.Proofs.Ytpkapldkmleppaa.Pl
/- What the functions of the document's answer for pack come to. -/
namespace Go.Proofs.Ytpkapldkmleppaa.Pl
open Go.RowKit Go.Proofs.Ytpkapldkmleppaa.F Go.Proofs.YtpkapldkmleppaaW.PrintWords Go.Proofs.YtpkapldkmleppaaW.PrintLast Go.Proofs.YtpkapldkmleppaaW.PrintMore
set_option linter.unusedVariables false
set_option linter.unusedSimpArgs false

theorem rnum_loop (n s : Nat) (hn : n < 18446744073709551616) (hs : s ≤ 8) (d : Nat) : ∀ (k i : Nat), i + d = s → d < k →
    weirkeeperref01_Num.l0 k ((n / 256 ^ i : Nat) : Int) (s : Int) (B (be n i)) (i : Int) = some (if n < 256 ^ s then (B (be n s), 0) else (B [], 1)) := by
  induction d with
  | zero =>
    intro k i hi hk
    obtain ⟨k, rfl⟩ : ∃ m, k = m + 1 := ⟨k - 1, by omega⟩
    have e : i = s := by omega
    subst e
    simp only [weirkeeperref01_Num.l0]
    rw [if_neg (by omega)]
    by_cases hb : n < 256 ^ i
    · rw [if_pos hb, if_neg (by simp [Nat.div_eq_of_lt hb])]
    · have : 0 < n / 256 ^ i := Nat.div_pos (by omega) (Nat.pow_pos (by decide))
      rw [if_neg hb, if_pos (by omega)]
      rfl
  | succ d ih =>
    intro k i hi hk
    obtain ⟨k, rfl⟩ : ∃ m, k = m + 1 := ⟨k - 1, by omega⟩
    have w4 : wrap64 ((i : Int) + 1) = ((i + 1 : Nat) : Int) := by rw [wrap64_in (by omega) (by omega)]; omega
    have hle : n / 256 ^ i ≤ n := Nat.div_le_self _ _
    have e1 := tmod256 (n / 256 ^ i)
    have e2 : IntKind.u64.wrap (Int.tdiv ((n / 256 ^ i : Nat) : Int) 256) = ((n / 256 ^ (i + 1) : Nat) : Int) := by
      rw [tdiv256 _ (by omega), Nat.pow_succ, ← Nat.div_div_eq_div_mul]
    have e3 : strOfNums [((n / 256 ^ i % 256 : Nat) : Int)] = B [UInt8.ofNat (n / 256 ^ i % 256)] := rfl
    simp only [weirkeeperref01_Num.l0]
    rw [if_pos (by omega), e1, e2, Option.bind_some, e3, B_size, B_size, if_pos (by simp [be_length]; omega), B_append, w4]
    exact ih k (i + 1) (by omega) (by omega)

theorem rnum_eq (n : Nat) (hn : n < 18446744073709551616) (size : Int) (k : Nat) (hk : 12 ≤ k) :
    weirkeeperref01_Num.f k (n : Int) size = some (numR n size) := by
  obtain ⟨k, rfl⟩ : ∃ m, k = m + 1 := ⟨k - 1, by omega⟩
  unfold weirkeeperref01_Num.f numR
  by_cases h1 : size < 1
  · rw [if_pos h1, if_neg (by omega)]
    simp only [weirkeeperref01_Num.j0]
    rfl
  · rw [if_neg h1]
    simp only [weirkeeperref01_Num.j0]
    by_cases h2 : size > 8
    · rw [decide_eq_true h2, if_pos rfl, if_neg (by omega)]
      rfl
    · obtain ⟨s, rfl⟩ := Int.eq_ofNat_of_zero_le (show 0 ≤ size by omega)
      have := rnum_loop n s hn (by omega) s k 0 (by omega) (by omega)
      simp only [Nat.pow_zero, Nat.div_one, be] at this
      rw [decide_eq_false h2, if_neg (by decide), Int.toNat_natCast]
      refine this.trans ?_
      congr 1
      by_cases hb : n < 256 ^ s
      · rw [if_pos hb, if_pos ⟨by omega, by omega, hb⟩]
      · rw [if_neg hb, if_neg (fun hh => hb hh.2.2)]
theorem rtake_loop (l : List UInt8) (s : Nat) (hs : s ≤ 8) (hl : s ≤ l.length) (d : Nat) : ∀ (k i : Nat), i + d = s → d < k →
    weirkeeperref01_Take.l0 k (B l) (s : Int) ((val (l.take i) : Nat) : Int) (i : Int) = some (((val (l.take s) : Nat) : Int), B (l.drop s), 0) := by
  induction d with
  | zero =>
    intro k i hi hk
    obtain ⟨k, rfl⟩ : ∃ m, k = m + 1 := ⟨k - 1, by omega⟩
    have e : i = s := by omega
    subst e
    simp only [weirkeeperref01_Take.l0]
    rw [if_neg (by omega), if_pos (by omega), if_pos (by rw [B_size]; omega), Int.toNat_natCast, B_extract_all]
  | succ d ih =>
    intro k i hi hk
    obtain ⟨k, rfl⟩ : ∃ m, k = m + 1 := ⟨k - 1, by omega⟩
    have w4 : wrap64 ((i : Int) + 1) = ((i + 1 : Nat) : Int) := by rw [wrap64_in (by omega) (by omega)]; omega
    have hv : val (l.take i) < 256 ^ 7 := by
      have h1 := val_lt (l.take i)
      have h2 : (l.take i).length = i := by simp; omega
      rw [h2] at h1
      exact Nat.lt_of_lt_of_le h1 (Nat.pow_le_pow_right (by decide) (by omega))
    have hb : l[i].toNat < 256 := l[i].toNat_lt
    have hbt : bt (B l) (i : Int) = (l[i].toNat : Int) := bt_B l i (by simp; omega)
    have e1 : IntKind.u64.wrap (((val (l.take i) : Nat) : Int) * 256) = ((val (l.take i) : Nat) : Int) * 256 := u64_in (by omega) (by omega)
    have e2 : IntKind.u64.wrap (l[i].toNat : Int) = (l[i].toNat : Int) := u64_in (by omega) (by omega)
    have e3 : IntKind.u64.wrap (((val (l.take i) : Nat) : Int) * 256 + (l[i].toNat : Int)) = ((val (l.take (i + 1)) : Nat) : Int) := by
      rw [u64_in (by omega) (by omega), List.take_succ_eq_append_getElem (by omega), val_append_one]
      omega
    simp only [weirkeeperref01_Take.l0]
    rw [if_pos (by omega), if_pos (by omega), if_pos (by rw [B_size]; omega), hbt, e1, e2, e3, w4]
    exact ih k (i + 1) (by omega) (by omega)

theorem rtake_eq (l : List UInt8) (size : Int) (k : Nat) (hk : 12 ≤ k) :
    weirkeeperref01_Take.f k (B l) size = some (takeR l size) := by
  obtain ⟨k, rfl⟩ : ∃ m, k = m + 1 := ⟨k - 1, by omega⟩
  unfold weirkeeperref01_Take.f takeR
  by_cases h1 : size < 1
  · rw [if_pos h1, if_neg (by omega)]
    simp only [weirkeeperref01_Take.j0]
    rfl
  · rw [if_neg h1]
    simp only [weirkeeperref01_Take.j0]
    by_cases h2 : size > 8
    · rw [decide_eq_true h2, if_pos rfl, if_neg (by omega)]
      rfl
    · obtain ⟨s, rfl⟩ := Int.eq_ofNat_of_zero_le (show 0 ≤ size by omega)
      rw [decide_eq_false h2, if_neg (by decide), B_size, if_pos (show 1 ≤ (s : Int) ∧ (s : Int) ≤ 8 by omega), Int.toNat_natCast]
      by_cases hc : l.length < s
      · rw [if_pos (by omega), if_pos hc]
        rfl
      · rw [if_neg (by omega), if_neg hc]
        have := rtake_loop l s (by omega) (by omega) s k 0 (by omega) (by omega)
        simpa [val] using this
end Go.Proofs.Ytpkapldkmleppaa.Pl
/- What the document's answer for records' pieces comes to. -/
namespace Go.Proofs.Ytpkapldkmleppaa.Pl
open Go.RowKit Go.Proofs.Ytpkapldkmleppaa.F Go.Proofs.YtpkapldkmleppaaW.PrintWords Go.Proofs.YtpkapldkmleppaaW.PrintLast Go.Proofs.YtpkapldkmleppaaW.PrintMore
set_option linter.unusedVariables false
set_option linter.unusedSimpArgs false
theorem rneed_loop (n : Nat) (hn : n ≤ 1000) : ∀ (d m k : Nat), m + d = needL n → d < k → weirkeeperref08_Need.l0 k (n : Int) (m : Int) = some ((needL n : Nat) : Int) ∨ m < 1
  | 0, m, k, h, hk => by
    obtain ⟨k, rfl⟩ : ∃ j, k = j + 1 := ⟨k - 1, by omega⟩
    refine .inl ?_
    have hm : m = needL n := by omega
    subst hm
    rw [weirkeeperref08_Need.l0, wrap64_in (by omega) (by unfold needL; omega), if_neg (by unfold needL; omega)]
  | d + 1, m, k, h, hk => by
    obtain ⟨k, rfl⟩ : ∃ j, k = j + 1 := ⟨k - 1, by omega⟩
    by_cases c : m < 1
    · exact .inr c
    · refine .inl ?_
      have hb : needL n ≤ 42 := by unfold needL; omega
      have hlt : 24 * m < n := by unfold needL at h; omega
      rw [weirkeeperref08_Need.l0, wrap64_in (by omega) (by omega), if_pos (by omega), wrap64_in (by omega) (by omega), show ((m : Int) + 1) = ((m + 1 : Nat) : Int) by omega]
      rcases rneed_loop n hn d (m + 1) k (by omega) (by omega) with h | h
      · exact h
      · omega
def needR (n : Int) : Int := if 0 ≤ n ∧ n ≤ 1000 then ((needL n.toNat : Nat) : Int) else 0
theorem rneed_eq (n : Int) (k : Nat) (hk : 50 ≤ k) : weirkeeperref08_Need.f k n = some (needR n) := by
  obtain ⟨k, rfl⟩ : ∃ j, k = j + 1 := ⟨k - 1, by omega⟩
  unfold weirkeeperref08_Need.f needR
  by_cases c : n < 0
  · rw [if_pos c, weirkeeperref08_Need.j0, if_pos rfl, if_neg (by omega)]
  · rw [if_neg c, weirkeeperref08_Need.j0]
    by_cases c2 : n > 1000
    · rw [if_pos (decide_eq_true c2), if_neg (by omega)]
    · obtain ⟨m, rfl⟩ := Int.eq_ofNat_of_zero_le (by omega : 0 ≤ n)
      rw [if_neg (by rw [decide_eq_false c2]; decide), if_pos (by omega), Int.toNat_natCast]
      have hb : needL m ≤ 42 ∧ 1 ≤ needL m := by unfold needL; omega
      rcases rneed_loop m (by omega) (needL m - 1) 1 k (by omega) (by omega) with h | h
      · exact h
      · omega
theorem rmay_eq (g a : Int) : weirkeeperref08_May.f g a = some (decide ((1 ≤ g ∧ g ≤ 2147483647) ∧ 0 ≤ a ∧ a ≤ 128)) := by
  unfold weirkeeperref08_May.f
  by_cases c1 : g ≥ 1
  · by_cases c2 : g ≤ 2147483647
    · by_cases c3 : a ≥ 0
      · rw [if_pos c1, if_pos c2, if_pos c3]
        congr 1
        rw [decide_eq_decide]
        omega
      · rw [if_pos c1, if_pos c2, if_neg c3, decide_eq_false (by omega)]
    · rw [if_pos c1, if_neg c2, decide_eq_false (by omega)]
  · rw [if_neg c1, decide_eq_false (by omega)]
theorem rpad (g a n : Int) (t : ByteArray) (i : Int) (out : List ByteArray) (ho : out.length < 1000) : ∀ (d : Nat) (s : List UInt8) (k : Nat), s.length + d = 32 → d < k →
    weirkeeperref08_Pieces.l1 k g a t n out i (B s) = weirkeeperref08_Pieces.l0 (k - d - 1) g a t n (out ++ [B (s ++ List.replicate d 0)]) (wrap64 (i + 1))
  | 0, s, k, h, hk => by
    obtain ⟨k, rfl⟩ : ∃ j, k = j + 1 := ⟨k - 1, by omega⟩
    rw [weirkeeperref08_Pieces.l1, B_size, if_neg (by omega), if_pos (by omega), List.replicate_zero, List.append_nil]
    rfl
  | d + 1, s, k, h, hk => by
    obtain ⟨k, rfl⟩ : ∃ j, k = j + 1 := ⟨k - 1, by omega⟩
    rw [weirkeeperref08_Pieces.l1, B_size, if_pos (by omega), if_pos (by omega), show (⟨#[0]⟩ : ByteArray) = B [0] from rfl, B_append, rpad g a n t i out ho d (s ++ [0]) k (by rw [List.length_append, List.length_singleton]; omega) (by omega), List.append_assoc]
    congr 1
    omega
theorem rstep (gen a : Nat) (t : List UInt8) (hg : gen < 4294967296) (ht : t.length ≤ 1000) (ha : a + needL t.length ≤ 10000) (i k : Nat) (out : List ByteArray) (hi : i < needL t.length) (ho : out.length = i) (hk : 60 ≤ k) :
    ∃ k', k ≤ k' + 50 ∧ weirkeeperref08_Pieces.l0 k (gen : Int) (a : Int) (B t) ((needL t.length : Nat) : Int) out (i : Int) = weirkeeperref08_Pieces.l0 k' (gen : Int) (a : Int) (B t) ((needL t.length : Nat) : Int) (out ++ [B (pieceL gen (a + i) (t.drop (24 * i)))]) ((i + 1 : Nat) : Int) := by
  obtain ⟨k, rfl⟩ : ∃ j, k = j + 2 := ⟨k - 2, by omega⟩
  have hn : needL t.length ≤ 42 := by unfold needL; omega
  have hit : 24 * i ≤ t.length := by unfold needL at hi; omega
  have e1 : wrap64 (24 * (i : Int)) = ((24 * i : Nat) : Int) := by rw [wrap64_in (by omega) (by omega)]; omega
  have e2 : wrap64 ((a : Int) + (i : Int)) = ((a + i : Nat) : Int) := by clear e1; rw [wrap64_in (by omega) (by omega)]; omega
  have e3 : wrap64 ((i : Int) + 1) = ((i + 1 : Nat) : Int) := by clear e1 e2; rw [wrap64_in (by omega) (by omega)]; omega
  generalize hx : t.drop (24 * i) = x
  have hxl : x.length ≤ 1000 := by rw [← hx, List.length_drop]; clear e1 e2 e3; omega
  have u1 : IntKind.u64.wrap (gen : Int) = (gen : Int) := u64_in (by clear e1 e2 e3; omega) (by clear e1 e2 e3; omega)
  have u2 : IntKind.u64.wrap ((a + i : Nat) : Int) = ((a + i : Nat) : Int) := by clear e1 e2 e3 u1; exact u64_in (by omega) (by omega)
  have u3 : IntKind.u64.wrap (x.length : Int) = (x.length : Int) := by clear e1 e2 e3 u1 u2; exact u64_in (by omega) (by omega)
  have n1 : weirkeeperref01_Num.f (k + 1) (gen : Int) 4 = some (B (be gen 4), 0) := by clear e1 e2 e3 u1 u2 u3; exact (rnum_eq gen (by omega) 4 (k + 1) (by omega)).trans (congrArg some (numR_ok gen 4 (by omega) (by omega) (by omega)))
  have n2 : weirkeeperref01_Num.f (k + 1) ((a + i : Nat) : Int) 2 = some (B (be (a + i) 2), 0) := by clear e1 e2 e3 u1 u2 u3; exact (rnum_eq (a + i) (by omega) 2 (k + 1) (by omega)).trans (congrArg some (numR_ok (a + i) 2 (by omega) (by omega) (by omega)))
  have n3 : weirkeeperref01_Num.f (k + 1) (x.length : Int) 2 = some (B (be x.length 2), 0) := by clear e1 e2 e3 u1 u2 u3; exact (rnum_eq x.length (by omega) 2 (k + 1) (by omega)).trans (congrArg some (numR_ok x.length 2 (by omega) (by omega) (by omega)))
  have hex : (B t).extract (24 * i) (B t).size = B x := by rw [B_extract_all, hx]
  have hj : ∀ y : List UInt8, y = x.take 24 → weirkeeperref08_Pieces.j2 (k + 1) (gen : Int) (a : Int) (B t) ((needL t.length : Nat) : Int) out (i : Int) (B y) (B (be gen 4)) (B (be (a + i) 2)) (B (be x.length 2)) =
      weirkeeperref08_Pieces.l0 (k - (24 - x.length) - 1) (gen : Int) (a : Int) (B t) ((needL t.length : Nat) : Int) (out ++ [B (pieceL gen (a + i) x)]) ((i + 1 : Nat) : Int) := fun y hy => by
    subst hy
    have hl : (headL gen (a + i) x.length ++ x.take 24).length + (24 - x.length) = 32 := by clear e1 e2 e3 u1 u2 u3; rw [List.length_append, headL_length, List.length_take]; omega
    have hp := rpad (gen : Int) (a : Int) ((needL t.length : Nat) : Int) (B t) (i : Int) out (by clear e1 e2 e3 u1 u2 u3; omega) (24 - x.length) (headL gen (a + i) x.length ++ x.take 24) k hl (by clear e1 e2 e3 u1 u2 u3; omega)
    rw [weirkeeperref08_Pieces.j2, B_append, B_append, B_append, B_size, B_size, B_size, B_size, B_size, if_pos (by rw [be_length, be_length]; decide), if_pos (by rw [List.length_append, be_length, be_length, be_length]; decide),
      if_pos (by clear e1 e2 e3 u1 u2 u3; rw [List.length_append, List.length_append, be_length, be_length, be_length, B_size, List.length_take]; omega), show be gen 4 ++ be (a + i) 2 ++ be x.length 2 = headL gen (a + i) x.length from rfl, hp, e3]
    rfl
  refine ⟨k - (24 - x.length) - 1, by clear e1 e2 e3 u1 u2 u3; omega, ?_⟩
  rw [weirkeeperref08_Pieces.l0, if_pos (by clear e1 e2 e3 u1 u2 u3; omega), e1, if_pos (by clear e1 e2 e3 u1 u2 u3; omega), if_pos (by clear e1 e2 e3 u1 u2 u3; rw [B_size]; omega), Int.toNat_natCast, hex, B_size, e2, u1, u2, u3, n1, Option.bind_some, n2, Option.bind_some, n3, Option.bind_some]
  by_cases c : x.length ≤ 24
  · rw [if_neg (by clear e1 e2 e3 u1 u2 u3; omega)]
    exact hj x (List.take_of_length_le c).symm
  · rw [if_pos (by clear e1 e2 e3 u1 u2 u3; omega), if_pos (by decide), if_pos (by clear e1 e2 e3 u1 u2 u3; omega), B_extract, List.drop_zero]
    exact hj _ rfl
theorem rpieces_loop (gen a : Nat) (t : List UInt8) (hg : gen < 4294967296) (ht : t.length ≤ 1000) (ha : a + needL t.length ≤ 10000) : ∀ (d i k : Nat) (out : List ByteArray), i + d + 1 = needL t.length → out.length = i → 60 * (d + 1) + 20 ≤ k →
    weirkeeperref08_Pieces.l0 k (gen : Int) (a : Int) (B t) ((needL t.length : Nat) : Int) out (i : Int) = some (out ++ (recL gen (a + i) (t.drop (24 * i))).map B, 0)
  | 0, i, k, out, hi, ho, hk => by
    obtain ⟨k', h1, h2⟩ := rstep gen a t hg ht ha i k out (by omega) ho (by omega)
    obtain ⟨j, rfl⟩ : ∃ j, k' = j + 1 := ⟨k' - 1, by omega⟩
    have hs : (t.drop (24 * i)).length ≤ 24 := by rw [List.length_drop]; unfold needL at hi; omega
    rw [h2, weirkeeperref08_Pieces.l0, if_neg (by omega), recL_short _ _ _ hs]
    rfl
  | d + 1, i, k, out, hi, ho, hk => by
    obtain ⟨k', h1, h2⟩ := rstep gen a t hg ht ha i k out (by omega) ho (by omega)
    have hs : ¬ (t.drop (24 * i)).length ≤ 24 := by rw [List.length_drop]; unfold needL at hi; omega
    rw [h2, rpieces_loop gen a t hg ht ha d (i + 1) k' _ (by omega) (by rw [List.length_append, List.length_singleton, ho]) (by omega), recL_long _ _ _ hs, List.drop_drop, List.map_cons, List.append_assoc, show a + i + 1 = a + (i + 1) by omega, show 24 * i + 24 = 24 * (i + 1) by omega]
    rfl
theorem rpieces_eq (gen i : Int) (t : List UInt8) (ht : t.length ≤ 9000000000000) (k : Nat) (hk : 2700 ≤ k) : weirkeeperref08_Pieces.f k gen i (B t) = some (piecesR gen i t) := by
  obtain ⟨k, rfl⟩ : ∃ j, k = j + 1 := ⟨k - 1, by omega⟩
  unfold weirkeeperref08_Pieces.f piecesR
  rw [rmay_eq, Option.bind_some]
  by_cases c1 : (1 ≤ gen ∧ gen ≤ 2147483647) ∧ 0 ≤ i ∧ i ≤ 128
  · rw [decide_eq_true c1, if_pos rfl, weirkeeperref08_Pieces.j0, B_size]
    by_cases c3 : t.length ≤ 1000
    · have hb : needL t.length ≤ 42 ∧ 1 ≤ needL t.length := by unfold needL; omega
      obtain ⟨g, rfl⟩ := Int.eq_ofNat_of_zero_le (by omega : 0 ≤ gen)
      obtain ⟨n, rfl⟩ := Int.eq_ofNat_of_zero_le (by omega : 0 ≤ i)
      rw [if_neg (by rw [decide_eq_false (by omega)]; decide), rneed_eq _ k (by omega), Option.bind_some, needR, if_pos (show (0 : Int) ≤ (t.length : Int) ∧ (t.length : Int) ≤ 1000 by omega), Int.toNat_natCast, if_pos (show ((1 : Int) ≤ (g : Int) ∧ (g : Int) ≤ 2147483647) ∧ (0 ≤ (n : Int) ∧ (n : Int) ≤ 128) ∧ t.length ≤ 1000 from ⟨c1.1, c1.2, c3⟩), wrap64_in (by omega) (by omega)]
      by_cases c4 : n + needL t.length ≤ 128
      · have := rpieces_loop g n t (by omega) c3 (by omega) (needL t.length - 1) 0 k [] (by omega) rfl (by omega)
        rw [if_neg (by omega), if_pos (by omega), show (0 : Int) = ((0 : Nat) : Int) from rfl, this]
        rfl
      · rw [if_pos (by omega), if_neg (by omega)]
    · rw [if_pos (decide_eq_true (by omega)), if_neg (fun h => c3 h.2.2)]
  · rw [decide_eq_false c1, if_neg (by decide), weirkeeperref08_Pieces.j0, if_pos rfl, if_neg (fun h => c1 ⟨h.1, h.2.1⟩)]
end Go.Proofs.Ytpkapldkmleppaa.Pl
/- What the document's answer for the records that stand in pieces comes to: what journal.Parse tells. -/
namespace Go.Proofs.Ytpkapldkmleppaa.Pl
open Go.RowKit Go.Proofs.Ytpkapldkmleppaa.F Go.Proofs.YtpkapldkmleppaaW.PrintWords Go.Proofs.YtpkapldkmleppaaW.PrintLast Go.Proofs.YtpkapldkmleppaaW.PrintMore
set_option linter.unusedVariables false
set_option linter.unusedSimpArgs false
/-- the texts of sectors, and the record that begins at a place -/
def txts (l : List (List UInt8)) : List UInt8 := l.flatMap (·.drop 8)
theorem txts_append (a b : List (List UInt8)) : txts (a ++ b) = txts a ++ txts b := by simp [txts]
theorem txts_length : ∀ (l : List (List UInt8)), (∀ s ∈ l, s.length = 32) → (txts l).length = 24 * l.length
  | [], _ => rfl
  | s :: l, h => by
    have := txts_length l (fun x hx => h x (List.mem_cons_of_mem _ hx))
    have hs := h s List.mem_cons_self
    show (s.drop 8 ++ txts l).length = _
    rw [List.length_append, this, List.length_drop, List.length_cons]
    omega
def nextL (gen a : Nat) (l : List (List UInt8)) : Option (List UInt8) :=
  if (l.getD a []).length = 32 ∧ lenL (l.getD a []) ≤ 1000 ∧ a + needL (lenL (l.getD a [])) ≤ l.length ∧ (∀ s ∈ (l.drop a).take (needL (lenL (l.getD a []))), s.length = 32) ∧
      recL gen a ((txts ((l.drop a).take (needL (lenL (l.getD a []))))).take (lenL (l.getD a []))) = (l.drop a).take (needL (lenL (l.getD a [])))
    then some ((txts ((l.drop a).take (needL (lenL (l.getD a []))))).take (lenL (l.getD a []))) else none
def nextR (gen a : Nat) (l : List (List UInt8)) : ByteArray × Int := match nextL gen a l with
  | some t => (B t, ((a + needL t.length : Nat) : Int))
  | none => (B [], -1)
theorem next_l1 (a : Nat) (l p : List (List UInt8)) (T : List UInt8) (n : Nat) (hp : p.length = n) (hl : a + n ≤ l.length) (h128 : l.length ≤ 128) : ∀ (d i k : Nat), i + d = n → d < k →
    weirkeeperref08_next.l1 k (a : Int) (l.map B) (n : Int) (B T) (p.map B) (i : Int) = some (if p.drop i = ((l.drop a).take n).drop i then (B T, ((a + n : Nat) : Int)) else (B [], -1))
  | 0, i, k, hi, hk => by
    obtain ⟨k, rfl⟩ : ∃ j, k = j + 1 := ⟨k - 1, by omega⟩
    rw [weirkeeperref08_next.l1, if_neg (by omega), List.drop_of_length_le (by omega), List.drop_of_length_le (by rw [List.length_take]; omega), if_pos rfl, wrap64_in (by omega) (by omega)]
    rfl
  | d + 1, i, k, hi, hk => by
    obtain ⟨k, rfl⟩ : ∃ j, k = j + 1 := ⟨k - 1, by omega⟩
    have h1 : i < p.length := by omega
    have h2 : a + i < l.length := by omega
    have h3 : i < ((l.drop a).take n).length := by rw [List.length_take, List.length_drop]; omega
    have e1 : wrap64 ((a : Int) + (i : Int)) = ((a + i : Nat) : Int) := by rw [wrap64_in (by omega) (by omega)]; omega
    have e3 : wrap64 ((i : Int) + 1) = ((i + 1 : Nat) : Int) := by clear e1; rw [wrap64_in (by omega) (by omega)]; omega
    rw [weirkeeperref08_next.l1, e1, e3]
    clear e1 e3
    have hg : ((l.drop a).take n)[i] = l[a + i] := by rw [List.getElem_take, List.getElem_drop]
    rw [if_pos (by omega), if_pos (by omega), if_pos (by rw [List.length_map]; omega), if_pos (by omega), if_pos (by rw [List.length_map]; omega), rdOf_B p i h1, rdOf_B l (a + i) h2, B_toList, B_toList, List.drop_eq_getElem_cons h1, List.drop_eq_getElem_cons h3, hg]
    by_cases c : p[i] = l[a + i]
    · rw [if_pos c, next_l1 a l p T n hp hl h128 d (i + 1) k (by omega) (by omega)]
      simp only [List.cons.injEq, c, true_and]
    · rw [if_neg c]
      simp only [List.cons.injEq, c, false_and, if_false]
      rfl
theorem next_l0 (gen a : Nat) (hg : 1 ≤ gen ∧ gen ≤ 2147483647) (l : List (List UInt8)) (z n : Nat) (hn : n = needL z) (hz : z ≤ 1000) (hl : a + n ≤ l.length) (h128 : l.length ≤ 128) (hs : ∀ s ∈ l, s.length ≤ 9000000000000) : ∀ (d i k : Nat), i + d = n → (∀ s ∈ (l.drop a).take i, s.length = 32) → d + 2800 < k →
    weirkeeperref08_next.l0 k (gen : Int) (a : Int) (l.map B) (z : Int) (n : Int) (B (txts ((l.drop a).take i))) (i : Int) =
      some (if (∀ s ∈ (l.drop a).take n, s.length = 32) ∧ recL gen a ((txts ((l.drop a).take n)).take z) = (l.drop a).take n then (B ((txts ((l.drop a).take n)).take z), ((a + n : Nat) : Int)) else (B [], -1))
  | 0, i, k, hi, h32, hk => by
    obtain ⟨k, rfl⟩ : ∃ j, k = j + 1 := ⟨k - 1, by omega⟩
    obtain rfl : i = n := by omega
    have hb : needL z ≤ 42 ∧ z ≤ 24 * needL z := by unfold needL; omega
    have hlt : ((l.drop a).take i).length = i := by rw [List.length_take, List.length_drop]; omega
    have htl := txts_length _ h32
    have hT : ((txts ((l.drop a).take i)).take z).length = z := by rw [List.length_take]; omega
    have hp : piecesR (gen : Int) (a : Int) ((txts ((l.drop a).take i)).take z) = ((recL gen a ((txts ((l.drop a).take i)).take z)).map B, 0) := by
      unfold piecesR
      rw [if_pos ⟨⟨by omega, by omega⟩, ⟨by omega, by omega⟩, by omega⟩, hT, ← hn, if_pos (by omega), Int.toNat_natCast, Int.toNat_natCast]
    have hrl := recL_length _ gen a _ (Nat.le_of_eq hT)
    have := next_l1 a l (recL gen a ((txts ((l.drop a).take i)).take z)) ((txts ((l.drop a).take i)).take z) i (by rw [hrl, hT, ← hn]) hl h128 i 0 k (by omega) (by omega)
    rw [weirkeeperref08_next.l0, if_neg (by omega), if_pos (by omega), if_pos (by rw [B_size]; omega), Int.toNat_natCast, B_extract, List.drop_zero, rpieces_eq _ _ _ (by omega) k (by omega), Option.bind_some, hp]
    simp only [if_true]
    rw [show (0 : Int) = ((0 : Nat) : Int) from rfl, this, List.drop_zero, List.drop_zero]
    congr 1
    by_cases c : recL gen a ((txts ((l.drop a).take i)).take z) = (l.drop a).take i
    · rw [if_pos c, if_pos ⟨h32, c⟩]
    · rw [if_neg c, if_neg (fun h => c h.2)]
  | d + 1, i, k, hi, h32, hk => by
    obtain ⟨k, rfl⟩ : ∃ j, k = j + 1 := ⟨k - 1, by omega⟩
    have h2 : a + i < l.length := by omega
    have hb : needL z ≤ 42 := by unfold needL; omega
    have h3 : i < (l.drop a).length := by rw [List.length_drop]; omega
    have hge : (l.drop a)[i] = l[a + i] := List.getElem_drop ..
    have hsz := hs l[a + i] (List.getElem_mem h2)
    have htl := txts_length _ h32
    have hlt : ((l.drop a).take i).length ≤ i := List.length_take_le ..
    have e1 : wrap64 ((a : Int) + (i : Int)) = ((a + i : Nat) : Int) := by rw [wrap64_in (by omega) (by omega)]; omega
    have e3 : wrap64 ((i : Int) + 1) = ((i + 1 : Nat) : Int) := by clear e1; rw [wrap64_in (by omega) (by omega)]; omega
    rw [weirkeeperref08_next.l0, e1, e3]
    clear e1 e3
    rw [if_pos (by omega), if_pos (by omega), if_pos (by rw [List.length_map]; omega), rdOf_B l (a + i) h2, B_size]
    by_cases c : l[a + i].length = 32
    · have ht : (l.drop a).take (i + 1) = (l.drop a).take i ++ [l[a + i]] := by rw [List.take_succ_eq_append_getElem h3, hge]
      have ht2 : txts ((l.drop a).take (i + 1)) = txts ((l.drop a).take i) ++ l[a + i].drop 8 := by rw [ht, txts_append]; simp [txts]
      rw [if_pos (by omega), if_pos (by omega), B_ext, if_pos (by rw [B_size, B_size, List.length_drop]; omega), B_append, ← ht2]
      refine next_l0 gen a hg l z n hn hz hl h128 hs d (i + 1) k (by omega) (fun s h => ?_) (by omega)
      rw [ht] at h
      rcases List.mem_append.1 h with h | h
      · exact h32 s h
      · rw [List.mem_singleton.1 h]; exact c
    · rw [if_neg (by omega), if_neg]
      · rfl
      · intro h
        refine c (h.1 _ ?_)
        rw [← hge]
        have hi2 : i < ((l.drop a).take n).length := by rw [List.length_take]; omega
        have := List.getElem_mem hi2
        rw [List.getElem_take] at this
        exact this
theorem take2 (x : List UInt8) (h : x.length = 2) : takeR x 2 = (((val x : Nat) : Int), B [], 0) := by
  have e1 : x.take (2 : Int).toNat = x := List.take_of_length_le (by rw [h]; decide)
  have e2 : x.drop (2 : Int).toNat = [] := List.drop_of_length_le (by rw [h]; decide)
  unfold takeR
  rw [if_pos (by decide), if_neg (by rw [h]; decide), e1, e2]
theorem next_eq (gen a : Nat) (hg : 1 ≤ gen ∧ gen ≤ 2147483647) (l : List (List UInt8)) (ha : a ≤ l.length) (h128 : l.length ≤ 128) (hs : ∀ s ∈ l, s.length ≤ 9000000000000) (k : Nat) (hk : 2900 ≤ k) : weirkeeperref08_next.f k (gen : Int) (a : Int) (l.map B) = some (nextR gen a l) := by
  obtain ⟨k, rfl⟩ : ∃ j, k = j + 2 := ⟨k - 2, by omega⟩
  unfold weirkeeperref08_next.f nextR nextL
  rw [List.length_map]
  by_cases c : a < l.length
  · have hget : l.getD a [] = l[a] := by rw [List.getD_eq_getElem?_getD, List.getElem?_eq_getElem c]; rfl
    rw [if_neg (by omega), if_pos (by omega), if_pos (by omega), rdOf_B l a c, B_size, hget]
    by_cases c32 : l[a].length = 32
    · rw [show (((l[a].length : Nat) : Int) != 32) = false by rw [c32]; rfl, weirkeeperref08_next.j0, if_neg (by decide), if_pos (by omega), if_pos (by rw [List.length_map]; omega), if_pos (by decide), rdOf_B l a c, if_pos (by rw [B_size]; omega), B_extract]
      have hd : (l[a].take 8).drop 6 = (l[a].drop 6).take 2 := by rw [List.drop_take]
      have hdl : ((l[a].drop 6).take 2).length = 2 := by rw [List.length_take, List.length_drop]; omega
      have htk : takeR ((l[a].drop 6).take 2) 2 = (((lenL l[a] : Nat) : Int), B [], 0) := take2 _ hdl
      have hv : lenL l[a] < 65536 := by
        have := val_lt ((l[a].drop 6).take 2)
        rw [hdl] at this
        exact this
      rw [hd, rtake_eq _ 2 (k + 1) (by omega), htk, Option.bind_some]
      simp only
      rw [wrap64_in (by omega) (by omega), rneed_eq _ (k + 1) (by omega), Option.bind_some, needR, Int.toNat_natCast]
      by_cases c4 : lenL l[a] ≤ 1000
      · have hb : needL (lenL l[a]) ≤ 42 ∧ 1 ≤ needL (lenL l[a]) := by unfold needL; omega
        have e1 : wrap64 ((a : Int) + ((needL (lenL l[a]) : Nat) : Int)) = ((a + needL (lenL l[a]) : Nat) : Int) := by rw [wrap64_in (by omega) (by omega)]; omega
        rw [if_pos (show (0 : Int) ≤ ((lenL l[a] : Nat) : Int) ∧ ((lenL l[a] : Nat) : Int) ≤ 1000 by clear e1; omega), if_neg (by clear e1; omega), e1]
        clear e1
        rw [weirkeeperref08_next.j1, List.length_map]
        by_cases c5 : a + needL (lenL l[a]) ≤ l.length
        · have := next_l0 gen a hg l (lenL l[a]) (needL (lenL l[a])) rfl c4 c5 h128 hs (needL (lenL l[a])) 0 k (by omega) (by simp) (by omega)
          rw [List.take_zero] at this
          rw [if_neg (by rw [decide_eq_true_eq]; omega), show (⟨#[]⟩ : ByteArray) = B (txts []) from rfl, show (0 : Int) = ((0 : Nat) : Int) from rfl, this]
          congr 1
          by_cases c6 : (∀ s ∈ (l.drop a).take (needL (lenL l[a])), s.length = 32) ∧ recL gen a ((txts ((l.drop a).take (needL (lenL l[a])))).take (lenL l[a])) = (l.drop a).take (needL (lenL l[a]))
          · have hlen := txts_length _ c6.1
            have hT : ((txts ((l.drop a).take (needL (lenL l[a])))).take (lenL l[a])).length = lenL l[a] := by
              rw [List.length_take, hlen, List.length_take, List.length_drop]
              unfold needL at c5 ⊢
              omega
            rw [if_pos c6, if_pos ⟨c32, c4, c5, c6.1, c6.2⟩]
            simp only
            rw [hT]
          · rw [if_neg c6, if_neg (fun h => c6 h.2.2.2)]
        · rw [if_pos (by rw [decide_eq_true_eq]; omega), if_neg (fun h => c5 h.2.2.1)]
          rfl
      · rw [if_neg (show ¬ ((0 : Int) ≤ ((lenL l[a] : Nat) : Int) ∧ ((lenL l[a] : Nat) : Int) ≤ 1000) by omega), if_pos rfl, weirkeeperref08_next.j1, if_pos rfl, if_neg (fun h => c4 h.2.1)]
        rfl
    · rw [show (((l[a].length : Nat) : Int) != 32) = true by rw [bne_iff_ne]; omega, weirkeeperref08_next.j0, if_pos rfl, if_neg (fun h => c32 h.1)]
      rfl
  · have hget : l.getD a [] = [] := by rw [List.getD_eq_getElem?_getD, List.getElem?_eq_none (by omega)]; rfl
    rw [if_pos (by omega), weirkeeperref08_next.j0, if_pos rfl, hget, if_neg (fun h => absurd h.1 (by decide))]
    rfl
theorem parse_prefix (gen : Nat) : ∀ (l : List (List UInt8)) (i : Nat) (out : List (List UInt8)) (e left : Nat) (p : List UInt8), ∃ ms, (parseL gen i out e left p l).1 = out ++ ms
  | [], i, out, e, left, p => ⟨[], by rw [parseL, List.append_nil]⟩
  | s :: l, i, out, e, left, p => by
    rw [parseL]
    split
    · split
      · obtain ⟨ms, h⟩ := parse_prefix gen l (i + 1) (out ++ [p ++ txtL s]) (i + 1) 0 []
        exact ⟨(p ++ txtL s) :: ms, by rw [h, List.append_assoc]; rfl⟩
      · exact parse_prefix gen l (i + 1) out e _ _
    · exact ⟨[], (List.append_nil _).symm⟩
theorem txts_rec : ∀ (m gen a : Nat) (t : List UInt8), t.length ≤ m → (txts (recL gen a t)).take t.length = t
  | 0, gen, a, t, h => by
    obtain rfl := List.eq_nil_of_length_eq_zero (Nat.le_zero.1 h)
    rfl
  | m + 1, gen, a, t, h => by
    have hp : (pieceL gen a t).drop 8 = t.take 24 ++ List.replicate (24 - t.length) 0 := by
      rw [pieceL, List.append_assoc, List.drop_append_of_le_length (by rw [headL_length]; omega), List.drop_of_length_le (by rw [headL_length]; omega), List.nil_append]
    by_cases c : t.length ≤ 24
    · rw [recL_short _ _ _ c, txts, List.flatMap_cons, List.flatMap_nil, List.append_nil, hp, List.take_of_length_le (l := t) c, List.take_left]
    · have ih := txts_rec m gen (a + 1) (t.drop 24) (by rw [List.length_drop]; omega)
      rw [recL_long _ _ _ c, txts, List.flatMap_cons, hp, show 24 - t.length = 0 by omega, List.replicate_zero, List.append_nil]
      show (t.take 24 ++ txts (recL gen (a + 1) (t.drop 24))).take t.length = t
      have hl : (t.take 24).length = 24 := by rw [List.length_take]; omega
      rw [List.length_drop] at ih
      rw [List.take_append, hl, ih, List.take_of_length_le (by omega), List.take_append_drop]
theorem next_some (gen a : Nat) (t : List UInt8) (l rest : List (List UInt8)) (ht : t.length ≤ 1000) (h : l.drop a = recL gen a t ++ rest) (ha : a ≤ l.length) : nextL gen a l = some t := by
  have hrl := recL_length _ gen a t (Nat.le_refl _)
  have hb : 1 ≤ needL t.length := by unfold needL; omega
  have hlen : l.length = a + needL t.length + rest.length := by
    have := congrArg List.length h
    rw [List.length_drop, List.length_append, hrl] at this
    omega
  have hget : l.getD a [] = pieceL gen a t := by
    have h1 : (l.drop a)[0]? = some (pieceL gen a t) := by
      rw [h]
      by_cases c : t.length ≤ 24
      · rw [recL_short _ _ _ c]; rfl
      · rw [recL_long _ _ _ c]; rfl
    rw [List.getElem?_drop, Nat.add_zero] at h1
    rw [List.getD_eq_getElem?_getD, h1]
    rfl
  obtain ⟨k1, k2, k3⟩ := okL_piece gen a t ht
  have htk : (l.drop a).take (needL t.length) = recL gen a t := by rw [h, ← hrl, List.take_left]
  unfold nextL
  rw [hget, k2, htk, txts_rec _ gen a t (Nat.le_refl _), if_pos ⟨pieceL_length _ _ _, ht, by omega, recL_32 _ gen a t (Nat.le_refl _), rfl⟩]
theorem next_back (gen a : Nat) (t : List UInt8) (l : List (List UInt8)) (h : nextL gen a l = some t) : t.length ≤ 1000 ∧ a + needL t.length ≤ l.length ∧ l.drop a = recL gen a t ++ l.drop (a + needL t.length) := by
  unfold nextL at h
  split at h
  · rename_i c
    obtain ⟨c1, c2, c3, c4, c5⟩ := c
    have ht := Option.some.inj h
    rw [ht] at c5
    have hlen := txts_length _ c4
    have hT : t.length = lenL (l.getD a []) := by
      rw [← ht, List.length_take, hlen, List.length_take, List.length_drop]
      unfold needL at c3 ⊢
      omega
    rw [← hT] at c2 c3 c5
    exact ⟨c2, c3, by rw [c5, ← List.drop_drop, List.take_append_drop]⟩
  · cases h
theorem rparse_loop (gen : Nat) (hg : 1 ≤ gen ∧ gen ≤ 2147483647) (l : List (List UInt8)) (h128 : l.length ≤ 128) (hs : ∀ s ∈ l, s.length ≤ 9000000000000) : ∀ (d a k : Nat) (out : List (List UInt8)), l.length - a ≤ d → a ≤ l.length → out.length ≤ a → l.take a = recsL gen 0 out → (∀ t ∈ out, t.length ≤ 1000) → d + 3000 ≤ k →
    weirkeeperref08_Parse.l0 k (gen : Int) (l.map B) (out.map B) (a : Int) = some ((parseL gen a out a 0 [] (l.drop a)).1.map B, (((parseL gen a out a 0 [] (l.drop a)).2 : Nat) : Int)) := by
  intro d
  induction d with
  | zero =>
    intro a k out hd ha ho hta hto hk
    obtain ⟨k, rfl⟩ : ∃ j, k = j + 1 := ⟨k - 1, by omega⟩
    have hn : nextL gen a l = none := by
      cases h : nextL gen a l with
      | none => rfl
      | some t =>
        obtain ⟨h1, h2, h3⟩ := next_back gen a t l h
        have : 1 ≤ needL t.length := by unfold needL; omega
        omega
    rw [weirkeeperref08_Parse.l0, next_eq gen a hg l ha h128 hs k (by omega), Option.bind_some, nextR, hn]
    simp only
    rw [if_pos (by decide), List.drop_of_length_le (by omega), parseL]
  | succ d ih =>
    intro a k out hd ha ho hta hto hk
    obtain ⟨k, rfl⟩ : ∃ j, k = j + 1 := ⟨k - 1, by omega⟩
    rw [weirkeeperref08_Parse.l0, next_eq gen a hg l ha h128 hs k (by omega), Option.bind_some, nextR]
    cases hn : nextL gen a l with
    | some t =>
      obtain ⟨h1, h2, h3⟩ := next_back gen a t l hn
      have hb : 1 ≤ needL t.length := by unfold needL; omega
      have hlo : (recsL gen 0 out).length = a := by rw [← hta, List.length_take]; omega
      have hrl := recL_length _ gen a t (Nat.le_refl _)
      simp only
      rw [if_neg (by omega), if_pos (by rw [List.length_map]; omega), show out.map B ++ [B t] = (out ++ [t]).map B by rw [List.map_append]; rfl]
      rw [ih (a + needL t.length) k (out ++ [t]) (by omega) (by omega) (by rw [List.length_append, List.length_singleton]; omega) ?_ ?_ (by omega), h3, parse_rec gen _ t a out a 0 [] _ (Nat.le_refl _) h1 (.inl rfl), List.nil_append]
      · rw [recsL_append, hlo, Nat.zero_add, recsL, recsL, List.append_nil, List.take_add, hta, h3, ← hrl, List.take_left]
      · intro x hx
        rcases List.mem_append.1 hx with hx | hx
        · exact hto x hx
        · rw [List.mem_singleton.1 hx]; exact h1
    | none =>
      simp only
      rw [if_pos (by decide)]
      have hlt : (l.take a).length = a := by rw [List.length_take]; omega
      obtain ⟨out', e', hp, he, hr, hm⟩ := parse_sound gen (l.drop a) (l.take a) out a 0 [] (by omega) (by rw [List.take_of_length_le (by omega), hta]) hto (by simp) (by simp [hlt]) (by simp)
      rw [hlt] at hp
      rw [List.take_append_drop] at he hr
      obtain ⟨ms, hpre⟩ := parse_prefix gen (l.drop a) a out a 0 []
      rw [hp] at hpre
      simp only at hpre
      have hlo : (recsL gen 0 out).length = a := by rw [← hta, hlt]
      cases ms with
      | nil =>
        rw [List.append_nil] at hpre
        subst hpre
        have : e' = a := by
          have := congrArg List.length hr
          rw [List.length_take, hlo] at this
          omega
        rw [hp, this]
      | cons t ms =>
        exfalso
        have hall : recsL gen 0 out' = recsL gen 0 out ++ (recL gen a t ++ recsL gen (a + needL t.length) ms) := by rw [hpre, recsL_append, hlo, Nat.zero_add, recsL]
        rw [hall, ← hta] at hr
        have hrl := recL_length _ gen a t (Nat.le_refl _)
        have h5 : l.drop a = recL gen a t ++ (recsL gen (a + needL t.length) ms ++ l.drop e') := by
          have h6 : l = l.take a ++ (recL gen a t ++ recsL gen (a + needL t.length) ms) ++ l.drop e' := by rw [← hr, List.take_append_drop]
          have h7 := congrArg (List.drop a) h6
          rw [List.append_assoc, List.drop_append_of_le_length (by omega), show (l.take a).drop a = [] from List.drop_of_length_le (by omega), List.nil_append, List.append_assoc] at h7
          exact h7
        rw [next_some gen a t l _ (hm t (by rw [hpre]; exact List.mem_append_right _ List.mem_cons_self)) h5 ha] at hn
        cases hn
theorem rparse_eq (gen : Int) (l : List (List UInt8)) (hl : l.length ≤ 9000000000000) (hs : ∀ s ∈ l, s.length ≤ 9000000000000) (k : Nat) (hk : 3200 ≤ k) : weirkeeperref08_Parse.f k gen (l.map B) = some ((parseR gen l).1.map B, (((parseR gen l).2 : Nat) : Int)) := by
  obtain ⟨k, rfl⟩ : ∃ j, k = j + 1 := ⟨k - 1, by omega⟩
  unfold weirkeeperref08_Parse.f parseR
  rw [rmay_eq, Option.bind_some, List.length_map]
  by_cases c1 : 1 ≤ gen ∧ gen ≤ 2147483647
  · rw [decide_eq_true (show (1 ≤ gen ∧ gen ≤ 2147483647) ∧ (0 : Int) ≤ 0 ∧ (0 : Int) ≤ 128 from ⟨c1, by omega, by omega⟩), if_pos rfl, weirkeeperref08_Parse.j0]
    by_cases c2 : l.length ≤ 128
    · obtain ⟨g, rfl⟩ := Int.eq_ofNat_of_zero_le (by omega : 0 ≤ gen)
      have := rparse_loop g (by omega) l c2 hs l.length 0 k [] (by omega) (by omega) (by simp) (by simp [recsL]) (by simp) (by omega)
      rw [if_neg (by rw [decide_eq_false (by omega)]; decide), if_pos ⟨c1, c2⟩]
      exact this
    · rw [if_pos (decide_eq_true (by omega)), if_neg (fun h => c2 h.2)]
      rfl
  · rw [decide_eq_false (fun h => c1 h.1), if_neg (by decide), weirkeeperref08_Parse.j0, if_pos rfl, if_neg (fun h => c1 h.1)]
    rfl
end Go.Proofs.Ytpkapldkmleppaa.Pl
/- What weirkeeperref04.Same answers, in plain words: whether the lists are the same. -/
namespace Go.Proofs.Ytpkapldkmleppaa.Pl
open Go.RowKit Go.Proofs.Ytpkapldkmleppaa.F Go.Proofs.YtpkapldkmleppaaW.PrintWords Go.Proofs.YtpkapldkmleppaaW.PrintLast Go.Proofs.YtpkapldkmleppaaW.PrintMore
set_option linter.unusedVariables false
set_option linter.unusedSimpArgs false
abbrev RWr := F.S77
instance : DecidableEq RWr := fun a b => decidable_of_iff (a.f0 = b.f0 ∧ a.f1 = b.f1) (by cases a; cases b; simp)
theorem rdOf_at {α : Type} (d : α) (l : List α) (i : Nat) (h : i < l.length) : rdOf d l (i : Int) = l[i] := by
  show l.getD (i : Int).toNat d = _
  rw [Int.toNat_natCast, List.getD_eq_getElem?_getD, List.getElem?_eq_getElem h]
  rfl
theorem rdRW_at (l : List RWr) (i : Nat) (h : i < l.length) : rd_T77 l (i : Int) = l[i] := rdOf_at _ l i h
theorem str_eq {a b : ByteArray} : a.toList = b.toList ↔ a = b := by
  constructor
  · intro h
    rw [ByteArray.toList_eq, ByteArray.toList_eq] at h
    exact ByteArray.ext (Array.toList_inj.1 h)
  · rintro rfl; rfl
theorem rw_eq {a b : RWr} : (!(a.f0 == b.f0) || !(a.f1.toList == b.f1.toList)) = true ↔ a ≠ b := by
  obtain ⟨a0, a1⟩ := a
  obtain ⟨b0, b1⟩ := b
  simp only [Bool.or_eq_true, Bool.not_eq_true', beq_eq_false_iff_ne, ne_eq, S77.mk.injEq, str_eq]
  by_cases h : a0 = b0 <;> simp [h]
theorem same_l1 (S S' : List ByteArray) (W W' : List RWr) (h : W.length = W'.length) (hm : W.length ≤ 9223372036854775807) : ∀ (d i k : Nat), i + d = W.length → d < k →
    weirkeeperref04_Same.l1 k (i : Int) S W S' W' = some (decide (W.drop i = W'.drop i))
  | 0, i, k, hi, hk => by
    obtain ⟨k, rfl⟩ : ∃ m, k = m + 1 := ⟨k - 1, by omega⟩
    rw [weirkeeperref04_Same.l1, if_neg (by omega), List.drop_of_length_le (by omega), List.drop_of_length_le (by omega)]
    simp
  | d + 1, i, k, hi, hk => by
    obtain ⟨k, rfl⟩ : ∃ m, k = m + 1 := ⟨k - 1, by omega⟩
    have h1 : i < W.length := by omega
    have h2 : i < W'.length := by omega
    rw [weirkeeperref04_Same.l1, if_pos (by omega), if_pos (by omega), if_pos (by omega), rdRW_at _ _ h1, rdRW_at _ _ h2, List.drop_eq_getElem_cons h1, List.drop_eq_getElem_cons h2]
    by_cases c : W[i] = W'[i]
    · rw [if_neg (by rw [rw_eq]; exact fun h => h c), wrap64_in (by omega) (by omega), show ((i : Int) + 1) = ((i + 1 : Nat) : Int) by omega, same_l1 S S' W W' h hm d (i + 1) k (by omega) (by omega)]
      simp only [List.cons.injEq, c, true_and]
    · rw [if_pos (by rw [rw_eq]; exact c)]
      simp only [List.cons.injEq, c, false_and, decide_false]
theorem same_l0 (S S' : List ByteArray) (W W' : List RWr) (h0 : S.length = S'.length) (h : W.length = W'.length) (hn : S.length ≤ 9223372036854775807) (hm : W.length ≤ 9223372036854775807) : ∀ (d i k : Nat), i + d = S.length → d + W.length + 1 < k →
    weirkeeperref04_Same.l0 k (i : Int) S W S' W' = some (decide (S.drop i = S'.drop i ∧ W = W'))
  | 0, i, k, hi, hk => by
    obtain ⟨k, rfl⟩ : ∃ m, k = m + 1 := ⟨k - 1, by omega⟩
    rw [weirkeeperref04_Same.l0, if_neg (by omega), List.drop_of_length_le (by omega), List.drop_of_length_le (by omega)]
    have := same_l1 S S' W W' h hm W.length 0 k (by omega) (by omega)
    simpa using this
  | d + 1, i, k, hi, hk => by
    obtain ⟨k, rfl⟩ : ∃ m, k = m + 1 := ⟨k - 1, by omega⟩
    have h1 : i < S.length := by omega
    have h2 : i < S'.length := by omega
    rw [weirkeeperref04_Same.l0, if_pos (by omega), if_pos (by omega), if_pos (by omega), rdOf_at _ _ _ h1, rdOf_at _ _ _ h2, List.drop_eq_getElem_cons h1, List.drop_eq_getElem_cons h2]
    by_cases c : S[i] = S'[i]
    · rw [if_pos (str_eq.2 c), wrap64_in (by omega) (by omega), show ((i : Int) + 1) = ((i + 1 : Nat) : Int) by omega, same_l0 S S' W W' h0 h hn hm d (i + 1) k (by omega) (by omega)]
      simp only [List.cons.injEq, c, true_and]
    · rw [if_neg (fun h => c (str_eq.1 h))]
      simp only [List.cons.injEq, c, false_and, decide_false]
theorem same_eq (S S' : List ByteArray) (W W' : List RWr) (hn : S.length ≤ 9223372036854775807) (hm : W.length ≤ 9223372036854775807) (k : Nat) (hk : S.length + W.length + 2 < k) :
    weirkeeperref04_Same.f k S W S' W' = some (decide (S = S' ∧ W = W')) := by
  obtain ⟨k, rfl⟩ : ∃ m, k = m + 1 := ⟨k - 1, by omega⟩
  unfold weirkeeperref04_Same.f
  by_cases c : (S.length : Int) = (S'.length : Int)
  · rw [if_pos c, weirkeeperref04_Same.j0]
    by_cases c2 : W.length = W'.length
    · rw [if_neg (by simp [c2]), show (0 : Int) = ((0 : Nat) : Int) from rfl, same_l0 S S' W W' (by omega) c2 hn hm S.length 0 k (by omega) (by omega)]
      simp
    · rw [if_pos (by simp; omega)]
      have : W ≠ W' := fun h => c2 (by rw [h])
      simp [this]
  · rw [if_neg c, weirkeeperref04_Same.j0, if_pos rfl]
    have : S ≠ S' := fun h => c (by rw [h])
    simp [this]
end Go.Proofs.Ytpkapldkmleppaa.Pl
/- What the functions of weirkeeperref04 come to: what those of the disk do. -/
namespace Go.Proofs.Ytpkapldkmleppaa.Pl
open Go.RowKit Go.Proofs.Ytpkapldkmleppaa.F Go.Proofs.YtpkapldkmleppaaW.PrintWords Go.Proofs.YtpkapldkmleppaaW.PrintLast Go.Proofs.YtpkapldkmleppaaW.PrintMore
set_option linter.unusedVariables false
set_option linter.unusedSimpArgs false
def toW (x : Wr) : RWr := ⟨x.f0, x.f1⟩
theorem rdTW_at (W : List Wr) (i : Nat) (h : i < W.length) : rd_T77 (W.map toW) (i : Int) = toW W[i] := by
  rw [rdRW_at _ _ (by rw [List.length_map]; exact h), List.getElem_map]
theorem refR4_l1 (S : List ByteArray) (W : List Wr) (n : Nat) (hW : W.length ≤ 100000) : ∀ (d i k : Nat), i + d = W.length → d < k → weirkeeperref04_Right.l1 k (n : Int) (i : Int) S (W.map toW) = some (!(W.drop i).any (wBad n))
  | 0, i, k, hi, hk => by
    obtain ⟨k, rfl⟩ : ∃ m, k = m + 1 := ⟨k - 1, by omega⟩
    rw [weirkeeperref04_Right.l1, if_neg (by rw [List.length_map]; omega), List.drop_of_length_le (by omega)]
    rfl
  | d + 1, i, k, hi, hk => by
    obtain ⟨k, rfl⟩ : ∃ m, k = m + 1 := ⟨k - 1, by omega⟩
    have hlt : i < W.length := by omega
    rw [weirkeeperref04_Right.l1, if_pos (by rw [List.length_map]; omega), if_pos (by omega), rdTW_at _ _ hlt, List.drop_eq_getElem_cons hlt, List.any_cons, wrap64_in (by omega) (by omega), show ((i : Int) + 1) = ((i + 1 : Nat) : Int) by omega]
    show (if ((W[i].f1.size : Int) = 32) then (if W[i].f0 < 0 then _ else (if W[i].f0 ≥ (n : Int) then _ else _)) else _) = _
    by_cases c1 : W[i].f1.size = 32
    · rw [if_pos (by omega)]
      by_cases c2 : W[i].f0 < 0
      · rw [if_pos c2, show wBad n W[i] = true by simp [wBad, c1]; omega]
        rfl
      · rw [if_neg c2]
        by_cases c3 : W[i].f0 ≥ (n : Int)
        · rw [if_pos c3, show wBad n W[i] = true by simp [wBad, c1]; omega]
          rfl
        · rw [if_neg c3, refR4_l1 S W n hW d (i + 1) k (by omega) (by omega), show wBad n W[i] = false by simp [wBad, c1]; omega]
          rfl
    · rw [if_neg (by omega), show wBad n W[i] = true by simp [wBad, c1]]
      rfl
theorem refR4_l0 (S : List ByteArray) (W : List Wr) (hS : S.length ≤ 100000) (hW : W.length ≤ 100000) : ∀ (d i k : Nat), i + d = S.length → d + W.length + 1 < k → weirkeeperref04_Right.l0 k (S.length : Int) (i : Int) S (W.map toW) = some (!((S.drop i).any fun s => s.size != 32) && !W.any (wBad S.length))
  | 0, i, k, hi, hk => by
    obtain ⟨k, rfl⟩ : ∃ m, k = m + 1 := ⟨k - 1, by omega⟩
    rw [weirkeeperref04_Right.l0, if_neg (by omega), List.drop_of_length_le (by omega), show (0 : Int) = ((0 : Nat) : Int) from rfl, refR4_l1 S W _ hW W.length 0 k (by omega) (by omega), List.drop_zero]
    rfl
  | d + 1, i, k, hi, hk => by
    obtain ⟨k, rfl⟩ : ∃ m, k = m + 1 := ⟨k - 1, by omega⟩
    have hlt : i < S.length := by omega
    rw [weirkeeperref04_Right.l0, if_pos (by omega), if_pos (by omega), if_pos (by omega), rdOf_at _ _ _ hlt, List.drop_eq_getElem_cons hlt, List.any_cons]
    by_cases c : S[i].size = 32
    · rw [if_pos (by omega), wrap64_in (by omega) (by omega), show ((i : Int) + 1) = ((i + 1 : Nat) : Int) by omega, refR4_l0 S W hS hW d (i + 1) k (by omega) (by omega), show (S[i].size != 32) = false by simp [c], Bool.false_or]
    · rw [if_neg (by omega), show (S[i].size != 32) = true by simp [c]]
      rfl
theorem refRight4_eq (S : List ByteArray) (W : List Wr) (hS : S.length ≤ 100000) (hW : W.length ≤ 100000) (k : Nat) (hk : S.length + W.length + 3 < k) : weirkeeperref04_Right.f k S (W.map toW) = some (disk_right S W) := by
  obtain ⟨k, rfl⟩ : ∃ m, k = m + 1 := ⟨k - 1, by omega⟩
  unfold weirkeeperref04_Right.f disk_right
  by_cases c1 : (S.length : Int) < 1
  · rw [if_pos c1, weirkeeperref04_Right.j0, if_pos rfl, decide_eq_false (by omega)]
    rfl
  rw [if_neg c1, weirkeeperref04_Right.j0, decide_eq_true (show 1 ≤ S.length by omega)]
  by_cases c2 : (S.length : Int) > 512
  · rw [if_pos (by simpa using c2), decide_eq_false (show ¬ S.length ≤ 512 by omega)]
    rfl
  · rw [if_neg (by simpa using c2), decide_eq_true (show S.length ≤ 512 by omega), show (0 : Int) = ((0 : Nat) : Int) from rfl, refR4_l0 S W hS hW S.length 0 k (by omega) (by omega), List.drop_zero]
    rfl
/-- a sector, as it reads -/
theorem sector_l0 (S : List ByteArray) (W : List Wr) (hW : W.length ≤ 100000) (hok : ∀ x ∈ W, 0 ≤ x.f0 ∧ x.f0 < (S.length : Int)) (i : Nat) (hi : i < S.length) : ∀ (j k : Nat), j ≤ W.length → j < k → weirkeeperref04_sector.l0 k (i : Int) ((j : Int) - 1) S (W.map toW) = (applyW alw 0 (W.take j) S)[i]?
  | 0, k, hj, hk => by
    obtain ⟨k, rfl⟩ : ∃ m, k = m + 1 := ⟨k - 1, by omega⟩
    rw [weirkeeperref04_sector.l0, if_neg (by omega), if_pos (by omega), if_pos (by omega), rdOf_at _ _ _ hi, List.take_zero]
    show _ = S[i]?
    rw [List.getElem?_eq_getElem hi]
  | j + 1, k, hj, hk => by
    obtain ⟨k, rfl⟩ : ∃ m, k = m + 1 := ⟨k - 1, by omega⟩
    have hlt : j < W.length := by omega
    have hx := hok W[j] (List.getElem_mem hlt)
    rw [weirkeeperref04_sector.l0, show ((j + 1 : Nat) : Int) - 1 = (j : Int) by omega, if_pos (by omega), if_pos (by omega), if_pos (by rw [List.length_map]; omega), rdTW_at _ _ hlt, wrap64_in (by omega) (by omega), List.take_add_one, List.getElem?_eq_getElem hlt]
    show (if W[j].f0 = (i : Int) then some W[j].f1 else _) = (applyW alw 0 (W.take j ++ [W[j]]) S)[i]?
    rw [applyW_app]
    show _ = ((applyW alw 0 (W.take j) S).set W[j].f0.toNat W[j].f1)[i]?
    by_cases c : W[j].f0 = (i : Int)
    · rw [if_pos c, c, Int.toNat_natCast, List.getElem?_set_self (by rw [applyW_length]; exact hi)]
    · rw [if_neg c, sector_l0 S W hW hok i hi j k (by omega) (by omega), List.getElem?_set_ne (by omega)]
theorem sector_eq {n : Nat} {S : List ByteArray} {W : List Wr} {I : List (List UInt8)} (h : Img n S W I) (hn : n ≤ 100000) (i : Nat) (hi : i < I.length) (k : Nat) (hk : W.length < k) : weirkeeperref04_sector.f k S (W.map toW) (i : Int) = some (B I[i]) := by
  have hl := h.len
  have hf := h.few
  unfold weirkeeperref04_sector.f
  rw [List.length_map, wrap64_in (by omega) (by omega), sector_l0 S W (by omega) (fun x hx => (((right_iff S W).1 h.right).2.2.2 x hx).2) i (by omega) W.length k (Nat.le_refl _) hk, List.take_length, h.img, List.getElem?_map, List.getElem?_eq_getElem hi]
  rfl
theorem readL_l0 {n : Nat} {S : List ByteArray} {W : List Wr} {I : List (List UInt8)} (h : Img n S W I) (hn : n ≤ 100000) (a m : Nat) (ha : a + m ≤ I.length) : ∀ (d i k : Nat) (x : List UInt8), i + d = m → d + W.length + 1 < k → x.length = 32 * i →
    weirkeeperref04_Read.l0 k (a : Int) (m : Int) (B x) (i : Int) S (W.map toW) = some (B (x ++ ((I.take (a + m)).drop (a + i)).flatten), 0)
  | 0, i, k, x, hi, hk, hx => by
    obtain ⟨k, rfl⟩ : ∃ m, k = m + 1 := ⟨k - 1, by omega⟩
    rw [weirkeeperref04_Read.l0, if_neg (by omega), List.drop_of_length_le (by rw [List.length_take]; omega)]
    simp
  | d + 1, i, k, x, hi, hk, hx => by
    obtain ⟨k, rfl⟩ : ∃ m, k = m + 1 := ⟨k - 1, by omega⟩
    have hl := h.len
    have hS := h.le
    have hlt : a + i < I.length := by omega
    have h32 := h.all32 I[a + i] (List.getElem_mem hlt)
    have hcons : (I.take (a + m)).drop (a + i) = I[a + i] :: (I.take (a + m)).drop (a + (i + 1)) := by
      rw [List.drop_eq_getElem_cons (by rw [List.length_take]; omega), List.getElem_take]
      rfl
    rw [weirkeeperref04_Read.l0, if_pos (by omega), wrap64_in (by omega) (by omega), show ((a : Int) + (i : Int)) = ((a + i : Nat) : Int) by omega, sector_eq h hn (a + i) hlt k (by omega), Option.bind_some, if_pos (by rw [B_size, B_size]; omega), B_append, wrap64_in (by omega) (by omega), show ((i : Int) + 1) = ((i + 1 : Nat) : Int) by omega,
      readL_l0 h hn a m ha d (i + 1) k (x ++ I[a + i]) (by omega) (by omega) (by rw [List.length_append]; omega), hcons, List.flatten_cons, List.append_assoc]
theorem refRead_ok {n : Nat} {S : List ByteArray} {W : List Wr} {I : List (List UInt8)} (h : Img n S W I) (hn : n ≤ 100000) (a m : Nat) (ha : a + m ≤ I.length) (k : Nat) (hk : S.length + W.length + m + 5 < k) : weirkeeperref04_Read.f k S (W.map toW) (a : Int) (m : Int) = some (B ((I.take (a + m)).drop a).flatten, 0) := by
  obtain ⟨k, rfl⟩ : ∃ m, k = m + 1 := ⟨k - 1, by omega⟩
  have hl := h.len
  have hS := h.le
  have hf := h.few
  unfold weirkeeperref04_Read.f
  rw [refRight4_eq S W (by omega) (by omega) (k + 1) (by omega), Option.bind_some, h.right, if_pos rfl, if_neg (by omega), if_neg (by omega), if_neg (by omega), wrap64_in (by omega) (by omega), decide_eq_false (by omega), weirkeeperref04_Read.j0, if_neg (by simp), show (0 : Int) = ((0 : Nat) : Int) from rfl, B_nil, readL_l0 h hn a m ha m 0 k [] (by omega) (by omega) rfl]
  rfl
theorem refRead_bad (S : List ByteArray) (W : List Wr) (hS : S.length ≤ 100000) (hW : W.length ≤ 100000) (a m : Int) (h : (disk_right S W && thereB S.length a m) = false) (k : Nat) (hk : S.length + W.length + 5 < k) : weirkeeperref04_Read.f k S (W.map toW) a m = some (⟨#[]⟩, 1) := by
  obtain ⟨k, rfl⟩ : ∃ m, k = m + 1 := ⟨k - 1, by omega⟩
  have jt : weirkeeperref04_Read.j0 (k + 1) a m true S (W.map toW) = some (⟨#[]⟩, 1) := by rw [weirkeeperref04_Read.j0, if_pos rfl]
  unfold weirkeeperref04_Read.f
  rw [refRight4_eq S W hS hW (k + 1) (by omega), Option.bind_some]
  cases hr : disk_right S W with
  | false => rw [if_neg (by simp), jt]
  | true =>
    rw [hr, Bool.true_and] at h
    rw [if_pos rfl]
    by_cases c1 : m < 0
    · rw [if_pos c1, jt]
    by_cases c2 : a < 0
    · rw [if_neg c1, if_pos c2, jt]
    by_cases c3 : m > (S.length : Int)
    · rw [if_neg c1, if_neg c2, if_pos c3, jt]
    rw [if_neg c1, if_neg c2, if_neg c3, wrap64_in (by omega) (by omega)]
    have c4 : a > (S.length : Int) - m := by
      by_cases c : a > (S.length : Int) - m
      · exact c
      · have : thereB S.length a m = true := (there_iff _ _ _).2 ⟨by omega, by omega, by omega, by omega⟩
        rw [this] at h
        cases h
    rw [decide_eq_true c4, jt]
/-! ### Put -/
theorem putL_l0 (S : List ByteArray) (W : List Wr) (hW : W.length ≤ 100000) (a : Int) (ha : 0 ≤ a) (ha2 : a ≤ 100000) (T : List ByteArray) (hT : T.length ≤ 100000) (X Y : List RWr) : ∀ (d i k : Nat) (V : List Wr), i + d = T.length → d < k → V.length ≤ 200000 + i → (∀ t ∈ T, t.size = 32) →
    weirkeeperref04_Put.l0 k a T (i : Int) S X S (V.map toW) = some (S, (V ++ putW (a + i) (T.drop i)).map toW, 0)
  | 0, i, k, V, hi, hk, hV, hT2 => by
    obtain ⟨k, rfl⟩ : ∃ m, k = m + 1 := ⟨k - 1, by omega⟩
    rw [weirkeeperref04_Put.l0, if_neg (by omega), List.drop_of_length_le (by omega), putW, List.append_nil]
  | d + 1, i, k, V, hi, hk, hV, hT2 => by
    obtain ⟨k, rfl⟩ : ∃ m, k = m + 1 := ⟨k - 1, by omega⟩
    have hlt : i < T.length := by omega
    have h32 := hT2 T[i] (List.getElem_mem hlt)
    have hm : V.map toW ++ [(⟨a + i, T[i]⟩ : RWr)] = (V ++ [(⟨a + i, T[i]⟩ : Wr)]).map toW := by rw [List.map_append]; rfl
    rw [weirkeeperref04_Put.l0, if_pos (by omega), if_pos (by omega), rdOf_at _ _ _ hlt, if_pos (by omega), if_pos (by rw [List.length_map]; omega), wrap64_in (n := (i : Int) + 1) (by omega) (by omega), wrap64_in (n := a + (i : Int)) (by omega) (by omega), show ((i : Int) + 1) = ((i + 1 : Nat) : Int) by omega, hm,
      putL_l0 S W hW a ha ha2 T hT X Y d (i + 1) k _ (by omega) (by omega) (by rw [List.length_append]; simp; omega) hT2, List.drop_eq_getElem_cons hlt, putW, List.append_assoc]
    rw [show a + ((i + 1 : Nat) : Int) = a + (i : Int) + 1 by omega]
    rfl
theorem putL_bad (S : List ByteArray) (W : List Wr) (a : Int) (ha : 0 ≤ a) (ha2 : a ≤ 100000) (T : List ByteArray) (hT : T.length ≤ 100000) (X : List RWr) : ∀ (d i k : Nat) (V : List RWr), i + d = T.length → d < k → V.length ≤ 200000 + i → ((T.drop i).any fun s => s.size != 32) = true →
    weirkeeperref04_Put.l0 k a T (i : Int) S X S V = some (S, X, 1)
  | 0, i, k, V, hi, hk, hV, hb => by
    rw [List.drop_of_length_le (by omega)] at hb
    cases hb
  | d + 1, i, k, V, hi, hk, hV, hb => by
    obtain ⟨k, rfl⟩ : ∃ m, k = m + 1 := ⟨k - 1, by omega⟩
    have hlt : i < T.length := by omega
    rw [weirkeeperref04_Put.l0, if_pos (by omega), if_pos (by omega), rdOf_at _ _ _ hlt]
    by_cases c : T[i].size = 32
    · rw [List.drop_eq_getElem_cons hlt, List.any_cons, show (T[i].size != 32) = false by simp [c], Bool.false_or] at hb
      rw [if_pos (by omega), if_pos (by omega), wrap64_in (n := (i : Int) + 1) (by omega) (by omega), show ((i : Int) + 1) = ((i + 1 : Nat) : Int) by omega]
      exact putL_bad S W a ha ha2 T hT X d (i + 1) k _ (by omega) (by omega) (by rw [List.length_append]; simp; omega) hb
    · rw [if_neg (by omega)]
theorem refPut_eq (S : List ByteArray) (W : List Wr) (hS : S.length ≤ 100000) (hW : W.length ≤ 100000) (a : Int) (T : List ByteArray) (hT : T.length ≤ 100000) (k : Nat) (hk : S.length + W.length + T.length + 600 < k) :
    ∃ V e, disk_Put.f S W a T = some (S, V, e) ∧ weirkeeperref04_Put.f k S (W.map toW) a T = some (S, V.map toW, e) ∧ V.length ≤ W.length + T.length ∧ (e = 0 ∨ e = 1 ∧ V = W) := by
  have hfit := fit_of hS hW
  unfold weirkeeperref04_Put.f
  cases hr : disk_right S W && thereB S.length a (T.length : Int) with
  | false =>
    refine ⟨W, 1, Put_bad hfit (by rw [hr]; rfl), ?_, by omega, .inr ⟨rfl, rfl⟩⟩
    rw [refRead_bad S W hS hW a _ hr k (by omega), Option.bind_some, if_neg (by decide)]
  | true =>
    rw [Bool.and_eq_true] at hr
    obtain ⟨h1, h2⟩ := hr
    have h3 := (there_iff _ _ _).1 h2
    have hI := (right_iff S W).1 h1
    obtain ⟨a', rfl⟩ : ∃ a' : Nat, a = a' := ⟨a.toNat, by omega⟩
    have himg : Img W.length S W ((applyW alw 0 W S).map (·.data.toList)) := ⟨Nat.le_refl _, h1, by
      rw [List.map_map]
      conv => lhs; rw [← List.map_id (applyW alw 0 W S)]
      apply List.map_congr_left
      intro s _
      exact (B_of s)⟩
    have hr := refRead_ok himg hW a' T.length (by rw [himg.len]; omega) k (by omega)
    rw [hr, Option.bind_some, if_pos rfl, if_pos (by rw [List.length_map]; simp; omega), List.nil_append, show (0 : Int) = ((0 : Nat) : Int) from rfl]
    cases hb : T.any fun s => s.size != 32 with
    | true =>
      refine ⟨W, 1, Put_bad hfit (by rw [hb, h1, h2]; rfl), ?_, by omega, .inr ⟨rfl, rfl⟩⟩
      rw [putL_bad S W a' (by omega) (by omega) T hT _ T.length 0 k _ (by omega) (by omega) (by rw [List.length_map]; omega) (by rw [List.drop_zero]; exact hb)]
    | false =>
      have hT2 : ∀ t ∈ T, t.size = 32 := fun t ht => by
        have := List.any_eq_false.1 hb t ht
        simpa using this
      refine ⟨W ++ putW a' T, 0, Put_ok hfit h1 h2 hT2, ?_, by rw [List.length_append, putW_length]; omega, .inl rfl⟩
      rw [putL_l0 S W hW a' (by omega) (by omega) T hT _ [] T.length 0 k W (by omega) (by omega) (by omega) hT2, List.drop_zero]
      simp
/-! ### the document's disk -/
theorem law4ref_eq (S : List ByteArray) (W : List Wr) (hW : W.length * 24 ≤ 140737488351232) (k : Nat) : weirkeeperlaw04_Ref.f k S W = some (S, W.map toW) := if_pos hW
end Go.Proofs.Ytpkapldkmleppaa.Pl
/- What weirkeeperref08.Texts and Append come to: what journal.Texts and Append do. -/
namespace Go.Proofs.Ytpkapldkmleppaa.Pl
open Go.RowKit Go.Proofs.Ytpkapldkmleppaa.F Go.Proofs.YtpkapldkmleppaaW.PrintWords Go.Proofs.YtpkapldkmleppaaW.PrintLast Go.Proofs.YtpkapldkmleppaaW.PrintMore
set_option linter.unusedVariables false
set_option linter.unusedSimpArgs false
theorem cutR8 (l : List UInt8) (h : l.length ≤ 4398046511104) : weirkeeperref06_Cut.f (B l) = some ((cutL l).map B) := cut_B l h
theorem img_of {S : List ByteArray} {W : List Wr} (h : disk_right S W = true) : Img W.length S W ((applyW alw 0 W S).map (·.data.toList)) := ⟨Nat.le_refl _, h, by
  rw [List.map_map]
  conv => lhs; rw [← List.map_id (applyW alw 0 W S)]
  apply List.map_congr_left
  intro s _
  exact (B_of s)⟩
theorem flat_len : ∀ L : List (List UInt8), (∀ s ∈ L, s.length = 32) → L.flatten.length = 32 * L.length := by
  intro L
  induction L with
  | nil => intro _; rfl
  | cons x r ih => intro hh; rw [List.flatten_cons, List.length_append, ih (fun s hs => hh s (List.mem_cons_of_mem _ hs)), hh x List.mem_cons_self, List.length_cons]; omega
theorem parseR_len (gen : Int) (L : List (List UInt8)) (h : L.length ≤ 1000) : (parseR gen L).1.length ≤ 1000 := by
  unfold parseR
  split
  · rename_i c
    obtain ⟨m, e, hp, he, hr, hm⟩ := parse_sound gen.toNat L [] [] 0 0 [] (by simp) (by simp [recsL]) (by simp) (by simp) (by simp) (by simp)
    simp only [List.length_nil, List.nil_append] at hp he hr
    rw [hp]
    have h2 : ∀ (ms : List (List UInt8)) (a : Nat), ms.length ≤ (recsL gen.toNat a ms).length := by
      intro ms
      induction ms with
      | nil => intro a; simp
      | cons t ms ih =>
        intro a
        have := ih (a + needL t.length)
        rw [recsL, List.length_append, recL_length _ _ a t (Nat.le_refl _), List.length_cons]
        unfold needL at this ⊢
        omega
    have h3 := h2 m 0
    rw [← hr, List.length_take] at h3
    show m.length ≤ 1000
    omega
  · simp
theorem texts_both (S : List ByteArray) (W : List Wr) (hS : S.length ≤ 1000) (hW : W.length ≤ 1000) (gen : Int) (k : Nat) (hk : 10000 ≤ k) :
    ∃ (L : List (List UInt8)) (n e : Int), L.length ≤ 1000 ∧ journal_Texts.f k S W gen = some (L.map B, n, e) ∧ weirkeeperref08_Texts.f k S (W.map toW) gen = some (L.map B, n, e) := by
  have hf := fit_of (S := S) (W := W) (by omega) (by omega)
  unfold journal_Texts.f weirkeeperref08_Texts.f
  by_cases c : (disk_right S W && thereB S.length 2 128) = true
  · rw [Bool.and_eq_true] at c
    have h3 := (there_iff _ _ _).1 c.2
    have himg := img_of c.1
    generalize (applyW alw 0 W S).map (·.data.toList) = I at himg
    have hl := himg.len
    have h32 := himg.all32
    have hd : ∀ s ∈ (I.take (2 + 128)).drop 2, s.length = 32 := fun s hs => h32 s (List.mem_of_mem_take (List.mem_of_mem_drop hs))
    have hdl : ((I.take (2 + 128)).drop 2).length = 128 := by rw [List.length_drop, List.length_take]; omega
    have hfl : ((I.take (2 + 128)).drop 2).flatten.length ≤ 4398046511104 := by rw [flat_len _ hd, hdl]; omega
    rw [show (2 : Int) = ((2 : Nat) : Int) from rfl, show (128 : Int) = ((128 : Nat) : Int) from rfl, himg.read (by omega) 2 128 (by omega), Option.bind_some, refRead_ok himg (by omega) 2 128 (by omega) k (by omega), Option.bind_some]
    generalize (I.take (2 + 128)).drop 2 = J at hd hdl hfl
    refine ⟨(parseR gen J).1, ((parseR gen J).2 : Nat), 0, parseR_len gen J (by omega), ?_, ?_⟩
    · rw [if_pos rfl, cut_B _ hfl, Option.bind_some, cutL_flatten _ hd, parse_eq gen J (by omega) (fun s hs => by rw [hd s hs]; omega) k (by omega)]
      rfl
    · rw [if_pos rfl, cutR8 _ hfl, Option.bind_some, cutL_flatten _ hd, rparse_eq gen J (by omega) (fun s hs => by rw [hd s hs]; omega) k (by omega)]
      rfl
  · have c' := Bool.eq_false_iff.2 c
    rw [Read_bad hf c', Option.bind_some, refRead_bad S W (by omega) (by omega) 2 128 c' k (by omega), Option.bind_some]
    exact ⟨[], 0, 1, by simp, rfl, rfl⟩
theorem rappend_loop (gen at_ : Nat) (hg : 1 ≤ gen ∧ gen ≤ 2147483647) {n : Nat} {S : List ByteArray} {W : List Wr} {I : List (List UInt8)} (h : Img n S W I) (hn : n ≤ 1000) (h130 : 130 ≤ S.length) (l : List (List UInt8)) (hl : l.length ≤ 1000000) : ∀ (rest D : List (List UInt8)) (out : List (List UInt8)) (k : Nat),
    D ++ rest = l → (∀ t ∈ rest, t.length ≤ 1000) → at_ + out.length ≤ 128 → (∀ s ∈ out, s.length = 32) → 6000 + rest.length ≤ k →
    weirkeeperref08_Append.l0 k (gen : Int) (at_ : Int) (l.map B) ((at_ + out.length : Nat) : Int) (D.length : Int) S (W.map toW) S ((W ++ putW ((2 + at_ : Nat) : Int) (out.map B)).map toW) =
      if at_ + out.length + (recsL gen (at_ + out.length) rest).length ≤ 128 then some (S, (W ++ putW ((2 + at_ : Nat) : Int) ((out ++ recsL gen (at_ + out.length) rest).map B)).map toW, ((at_ + out.length + (recsL gen (at_ + out.length) rest).length : Nat) : Int), 0) else some (S, W.map toW, (at_ : Int), 6)
  | [], D, out, k, hD, h1, h2, h3, hk => by
    obtain ⟨k, rfl⟩ : ∃ j, k = j + 1 := ⟨k - 1, by omega⟩
    rw [List.append_nil] at hD
    subst hD
    rw [recsL, if_pos (by simpa using h2), List.append_nil, weirkeeperref08_Append.l0, if_neg (by rw [List.length_map]; omega)]
    rfl
  | t :: rest, D, out, k, hD, h1, h2, h3, hk => by
    rw [List.length_cons] at hk
    obtain ⟨k, rfl⟩ : ∃ j, k = j + 1 := ⟨k - 1, by omega⟩
    have hll : l.length = D.length + (rest.length + 1) := by rw [← hD, List.length_append, List.length_cons]
    have hlt : D.length < l.length := by omega
    have hget : l[D.length] = t := by simp only [← hD, List.getElem_append_right (Nat.le_refl _), Nat.sub_self, List.getElem_cons_zero]
    have ht := h1 t List.mem_cons_self
    have hrl := recL_length t.length gen (at_ + out.length) t (Nat.le_refl _)
    have hlx : (recsL gen (at_ + out.length) (t :: rest)).length = needL t.length + (recsL gen (at_ + out.length + needL t.length) rest).length := by rw [recsL, List.length_append, hrl]
    have hSl := h.le
    have hWf := h.few
    have hout := h.put (by omega) (2 + at_) out (by omega) h3
    have e4 : wrap64 ((D.length : Int) + 1) = (((D ++ [t]).length : Nat) : Int) := by rw [wrap64_in (by omega) (by omega), List.length_append, List.length_singleton]; omega
    have q1 : (1 ≤ ((gen : Nat) : Int) ∧ ((gen : Nat) : Int) ≤ 2147483647) ∧ (0 ≤ ((at_ + out.length : Nat) : Int) ∧ ((at_ + out.length : Nat) : Int) ≤ 128) ∧ t.length ≤ 1000 := ⟨⟨by omega, by omega⟩, ⟨by omega, by omega⟩, ht⟩
    have q2 : (((at_ + out.length : Nat) : Int) + ((needL t.length : Nat) : Int) ≤ 128) ↔ at_ + out.length + needL t.length ≤ 128 := by omega
    rw [weirkeeperref08_Append.l0, if_pos (by rw [List.length_map]; omega), if_pos (by omega), rdOf_B l D.length hlt, hget, rpieces_eq _ _ t (by omega) k (by omega), Option.bind_some, piecesR, if_pos q1]
    by_cases c : at_ + out.length + needL t.length ≤ 128
    · rw [if_pos (q2.2 c), Int.toNat_natCast, Int.toNat_natCast]
      simp only
      have hr32 := recL_32 t.length gen (at_ + out.length) t (Nat.le_refl _)
      obtain ⟨V, e, p1, p2, _⟩ := refPut_eq S (W ++ putW ((2 + at_ : Nat) : Int) (out.map B)) (by omega) (by rw [List.length_append, putW_length, List.length_map]; omega) ((2 + at_ + out.length : Nat) : Int) ((recL gen (at_ + out.length) t).map B) (by rw [List.length_map, hrl]; omega) k (by rw [List.length_append, putW_length, List.length_map, List.length_map, hrl]; omega)
      have hp := (hout.2.put (by omega) (2 + at_ + out.length) (recL gen (at_ + out.length) t) (by rw [hrl]; omega) hr32).1
      rw [hp] at p1
      simp only [Option.some.injEq, Prod.mk.injEq, true_and] at p1
      obtain ⟨rfl, rfl⟩ := p1
      have ew : W ++ putW ((2 + at_ : Nat) : Int) (out.map B) ++ putW ((2 + at_ + out.length : Nat) : Int) ((recL gen (at_ + out.length) t).map B) = W ++ putW ((2 + at_ : Nat) : Int) ((out ++ recL gen (at_ + out.length) t).map B) := by
        rw [List.map_append, putW_append, List.append_assoc, List.length_map, show ((2 + at_ + out.length : Nat) : Int) = ((2 + at_ : Nat) : Int) + (out.length : Int) by omega]
      have hol : (out ++ recL gen (at_ + out.length) t).length = out.length + needL t.length := by rw [List.length_append, hrl]
      have := rappend_loop gen at_ hg h hn h130 l hl rest (D ++ [t]) (out ++ recL gen (at_ + out.length) t) k (by rw [List.append_assoc]; exact hD) (fun x hx => h1 x (List.mem_cons_of_mem _ hx)) (by rw [hol]; omega) (fun s hs => by
        rcases List.mem_append.1 hs with hs | hs
        · exact h3 s hs
        · exact hr32 s hs) (by omega)
      rw [if_pos trivial, wrap64_in (by omega) (by omega), show (2 : Int) + ((at_ + out.length : Nat) : Int) = ((2 + at_ + out.length : Nat) : Int) by omega, p2, Option.bind_some]
      simp only
      rw [ew, e4, List.length_map, hrl, wrap64_in (by omega) (by omega), show ((at_ + out.length : Nat) : Int) + ((needL t.length : Nat) : Int) = ((at_ + (out ++ recL gen (at_ + out.length) t).length : Nat) : Int) by rw [hol]; omega, this, hol, ← Nat.add_assoc, hlx, recsL, List.append_assoc, Nat.add_assoc (at_ + out.length)]
    · rw [if_neg (fun hh => c (q2.1 hh))]
      simp only
      rw [if_neg (show ¬ at_ + out.length + (recsL gen (at_ + out.length) (t :: rest)).length ≤ 128 by rw [hlx]; omega)]
      first | exact if_neg (fun h => h) | exact if_neg (by decide) | rfl
theorem Img.append' {n : Nat} {S : List ByteArray} {W : List Wr} {I : List (List UInt8)} (h : Img n S W I) (hn : n ≤ 100000) (h130 : 130 ≤ S.length) (gen at_ : Nat) (hg : 1 ≤ gen ∧ gen ≤ 2147483647) (ha : at_ ≤ 128) (l : List (List UInt8)) (hl : l.length ≤ 1000) (ht : ∀ t ∈ l, t.length ≤ 1000) (k : Nat) (hk : 2500 ≤ k) :
    journal_Append.f k S W (gen : Int) (at_ : Int) (l.map B) =
      if at_ + (recsL gen at_ l).length ≤ 128 then some (S, W ++ putW ((2 + at_ : Nat) : Int) ((recsL gen at_ l).map B), ((at_ + (recsL gen at_ l).length : Nat) : Int), 0) else some (S, W, (at_ : Int), 6) := by
  obtain ⟨k, rfl⟩ : ∃ j, k = j + 1 := ⟨k - 1, by omega⟩
  unfold journal_Append.f
  rw [show (2 : Int) = ((2 : Nat) : Int) from rfl, show (128 : Int) = ((128 : Nat) : Int) from rfl, h.read hn 2 128 (by omega), Option.bind_some, if_pos rfl, aging_eq, Option.bind_some, decide_eq_true (by omega), if_pos rfl, placed_eq, Option.bind_some, decide_eq_true (by omega), journal_Append.j0, if_neg (by decide), List.length_map]
  have := append_loop gen at_ hg S W l (by omega) l [] [] k rfl ht (by simpa using ha) (by omega)
  simp only [List.map_nil, List.length_nil, Nat.add_zero, List.nil_append] at this
  rw [show (0 : Int) = ((0 : Nat) : Int) from rfl, this]
  by_cases c : at_ + (recsL gen at_ l).length ≤ 128
  · rw [if_pos c, if_pos c]
    obtain ⟨j, hj⟩ : ∃ j, k - l.length = j + 1 := ⟨k - l.length - 1, by omega⟩
    have e1 : wrap64 (((2 : Nat) : Int) + (at_ : Int)) = ((2 + at_ : Nat) : Int) := by rw [wrap64_in (by omega) (by omega)]; omega
    have e2 : wrap64 ((at_ : Int) + (((recsL gen at_ l).map B).length : Int)) = ((at_ + (recsL gen at_ l).length : Nat) : Int) := by clear e1; rw [List.length_map, wrap64_in (by omega) (by omega)]; omega
    have hp := h.put hn (2 + at_) (recsL gen at_ l) (by clear e1 e2; omega) (recsL_32 gen l at_)
    rw [hj, journal_Append.l0, if_neg (by clear e1 e2; omega), show (2 : Int) = ((2 : Nat) : Int) from rfl, e1, hp.1, Option.bind_some]
    simp only
    rw [if_pos trivial, e2]
    rfl
  · rw [if_neg c, if_neg c]
theorem append_both (S : List ByteArray) (W : List Wr) (hS : S.length ≤ 1000) (hW : W.length ≤ 1000) (gen a : Int) (l : List (List UInt8)) (hl : l.length ≤ 1000) (ht : ∀ t ∈ l, t.length ≤ 1000) (k : Nat) (hk : 10000 ≤ k) :
    ∃ (V : List Wr) (p e : Int), V.length ≤ W.length + 128 ∧ journal_Append.f k S W gen a (l.map B) = some (S, V, p, e) ∧ weirkeeperref08_Append.f k S (W.map toW) gen a (l.map B) = some (S, V.map toW, p, e) := by
  have hf := fit_of (S := S) (W := W) (by omega) (by omega)
  have jt : journal_Append.j0 k gen a (l.map B) true S W = some (S, W, a, 1) := by
    obtain ⟨k, rfl⟩ : ∃ j, k = j + 1 := ⟨k - 1, by omega⟩
    rw [journal_Append.j0, if_pos rfl]
  have rt : weirkeeperref08_Append.j0 k gen a (l.map B) true S (W.map toW) = some (S, W.map toW, a, 1) := by
    obtain ⟨k, rfl⟩ : ∃ j, k = j + 1 := ⟨k - 1, by omega⟩
    rw [weirkeeperref08_Append.j0, if_pos rfl]
  by_cases c : (disk_right S W && thereB S.length 2 128) = true
  · rw [Bool.and_eq_true] at c
    have h3 := (there_iff _ _ _).1 c.2
    have himg := img_of c.1
    generalize (applyW alw 0 W S).map (·.data.toList) = I at himg
    by_cases c1 : (1 ≤ gen ∧ gen ≤ 2147483647) ∧ 0 ≤ a ∧ a ≤ 128
    · obtain ⟨g, rfl⟩ := Int.eq_ofNat_of_zero_le (by omega : 0 ≤ gen)
      obtain ⟨b, rfl⟩ := Int.eq_ofNat_of_zero_le (by omega : 0 ≤ a)
      have ha := himg.append' (by omega) (by omega) g b (by omega) (by omega) l hl ht k (by omega)
      have hr : weirkeeperref08_Append.f k S (W.map toW) (g : Int) (b : Int) (l.map B) = if b + (recsL g b l).length ≤ 128 then some (S, (W ++ putW ((2 + b : Nat) : Int) ((recsL g b l).map B)).map toW, ((b + (recsL g b l).length : Nat) : Int), 0) else some (S, W.map toW, (b : Int), 6) := by
        obtain ⟨k, rfl⟩ : ∃ j, k = j + 1 := ⟨k - 1, by omega⟩
        unfold weirkeeperref08_Append.f
        rw [show (2 : Int) = ((2 : Nat) : Int) from rfl, show (128 : Int) = ((128 : Nat) : Int) from rfl, refRead_ok himg (by omega) 2 128 (by rw [himg.len]; omega) (k + 1) (by omega), Option.bind_some, rmay_eq, Option.bind_some, decide_eq_true c1, if_pos rfl, weirkeeperref08_Append.j0, if_neg (by decide)]
        have := rappend_loop g b (by omega) himg (by omega) (by omega) l (by omega) l [] [] k rfl ht (by simp; omega) (by simp) (by omega)
        simp only [List.map_nil, List.length_nil, Nat.add_zero, List.nil_append, putW, List.append_nil] at this
        rw [show (0 : Int) = ((0 : Nat) : Int) from rfl, this]
        rfl
      by_cases c2 : b + (recsL g b l).length ≤ 128
      · rw [if_pos c2] at ha hr
        exact ⟨_, _, _, by rw [List.length_append, putW_length, List.length_map]; omega, ha, hr⟩
      · rw [if_neg c2] at ha hr
        exact ⟨_, _, _, by omega, ha, hr⟩
    · refine ⟨W, a, 1, by omega, ?_, ?_⟩
      · unfold journal_Append.f
        rw [show (2 : Int) = ((2 : Nat) : Int) from rfl, show (128 : Int) = ((128 : Nat) : Int) from rfl, himg.read (by omega) 2 128 (by omega), Option.bind_some, if_pos rfl, aging_eq, Option.bind_some]
        by_cases c2 : 1 ≤ gen ∧ gen ≤ 2147483647
        · rw [decide_eq_true c2, if_pos rfl, placed_eq, Option.bind_some, decide_eq_false (fun h => c1 ⟨c2, h⟩)]
          exact jt
        · rw [decide_eq_false c2, if_neg (by decide)]
          exact jt
      · unfold weirkeeperref08_Append.f
        rw [show (2 : Int) = ((2 : Nat) : Int) from rfl, show (128 : Int) = ((128 : Nat) : Int) from rfl, refRead_ok himg (by omega) 2 128 (by rw [himg.len]; omega) k (by omega), Option.bind_some, rmay_eq, Option.bind_some, decide_eq_false c1, if_pos rfl]
        exact rt
  · have c' := Bool.eq_false_iff.2 c
    refine ⟨W, a, 1, by omega, ?_, ?_⟩
    · unfold journal_Append.f
      rw [Read_bad hf c', Option.bind_some, if_neg (by decide)]
      exact jt
    · unfold weirkeeperref08_Append.f
      rw [refRead_bad S W (by omega) (by omega) 2 128 c' k (by omega), Option.bind_some, rmay_eq, Option.bind_some, if_neg (by decide)]
      exact rt
end Go.Proofs.Ytpkapldkmleppaa.Pl
/- The records of any disk, and any disk with some more, are what the document says, or refused. -/
namespace Go.Proofs.Ytpkapldkmleppaa.PlJournalTells
open Go.RowKit Go.Proofs.Ytpkapldkmleppaa.F Go.Proofs.YtpkapldkmleppaaW.PrintWords Go.Proofs.YtpkapldkmleppaaW.PrintLast Go.Proofs.YtpkapldkmleppaaW.PrintMore Go.Proofs.Ytpkapldkmleppaa.Pl
set_option linter.unusedVariables false
set_option linter.unusedSimpArgs false
theorem pure : ∀ (l0_0 : List ByteArray) (l0_1 : List F.S76) (a1 : Int) (a2 : Int) (l3 : List ByteArray), (((∀ yy ∈ l0_0, yy.size ≤ maxLen) ∧ l0_0.length ≤ maxLen) ∧ l0_0.length * 16 ≤ 140737488351232) → (((∀ yy ∈ l0_1, ((Lit.int .i64 yy.f0).wf = true ∧ yy.f1.size ≤ maxLen)) ∧ l0_1.length ≤ maxLen) ∧ l0_1.length * 24 ≤ 140737488351232) → (Lit.int .i64 a1).wf = true → (Lit.int .i64 a2).wf = true → ((∀ yy ∈ l3, yy.size ≤ maxLen) ∧ l3.length ≤ maxLen) → ∃ k, F.weirkeeperlaw08_JournalTells.f k l0_0 l0_1 a1 a2 l3 = some true := by
  intro S W gen a l3 hS hW _ _ _
  refine ⟨20000, ?_⟩
  have hj : ∀ X Y : List ByteArray, ∀ Z, weirkeeperlaw08_JournalTells.j0 20000 gen a X true S W Y Z = some true := fun X Y Z => by
    rw [weirkeeperlaw08_JournalTells.j0, if_pos rfl, awakeAt _ (by omega)]
    rfl
  unfold weirkeeperlaw08_JournalTells.f
  rw [law4ref_eq S W hW.2, Option.bind_some]
  simp only
  by_cases c1 : (S.length : Int) > 200
  · rw [if_pos c1, hj]
  rw [if_neg c1]
  by_cases c2 : (W.length : Int) > 100
  · rw [if_pos c2, hj]
  rw [if_neg c2]
  by_cases c3 : (l3.length : Int) > 10
  · rw [decide_eq_true c3, hj]
  rw [decide_eq_false c3]
  rw [strs_of l3] at c3 ⊢
  generalize (l3.map fun s => s.data.toList) = L at c3 ⊢
  rw [List.length_map] at c3
  rw [weirkeeperlaw08_JournalTells.j0, if_neg (by decide), List.length_map]
  refine short_loop (g := fun k i => weirkeeperlaw08_JournalTells.l0 k gen a (L.map B) (L.map B) (L.length : Int) i S W S (W.map toW)) L 300 19000 _ rfl (fun _ _ => rfl) (fun k hk => by rw [awakeAt k (by omega)]; rfl) ?_ (by omega) L.length 0 19999 (by omega) (by omega) (by simp)
  intro hs k hk
  obtain ⟨M, n, e, hM, t1, t2⟩ := texts_both S W (by omega) (by omega) gen k (by omega)
  obtain ⟨V, p, f, hV, a1, a2⟩ := append_both S W (by omega) (by omega) gen a L (by omega) (fun t h => by have := hs t h; omega) k (by omega)
  rw [t1, Option.bind_some, t2, Option.bind_some, a1, Option.bind_some, a2, Option.bind_some, same01_eq M M (by omega) k (by omega), Option.bind_some, if_pos (decide_eq_true rfl), if_pos rfl, if_pos rfl, law4ref_eq S V (by omega), Option.bind_some]
  simp only
  rw [same_eq S S (V.map toW) (V.map toW) (by omega) (by rw [List.length_map]; omega) k (by rw [List.length_map]; omega), Option.bind_some, if_pos (decide_eq_true ⟨rfl, rfl⟩), if_pos trivial, if_pos trivial, awakeAt k (by omega)]
  rfl
end Go.Proofs.Ytpkapldkmleppaa.PlJournalTells
