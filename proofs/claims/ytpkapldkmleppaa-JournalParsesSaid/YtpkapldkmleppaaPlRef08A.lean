/- What the document's answer for records' pieces comes to. -/
import Derived.Test.YtpkapldkmleppaaFref08x0
import Derived.Test.YtpkapldkmleppaaPlRefN
import Derived.Test.YtpkapldkmleppaaPlJourA
namespace Go.Proofs.Ytpkapldkmleppaa.Pl
open Go.RowKit Go.Proofs.Ytpkapldkmleppaa.F Go.Proofs.YtpkapldkmleppaaW.PrintWords Go.Proofs.YtpkapldkmleppaaW.PrintLast Go.Proofs.YtpkapldkmleppaaW.PrintMore
set_option linter.unusedVariables false
set_option linter.unusedSimpArgs false
theorem rneed_loop (n : Nat) (hn : n ≤ 1000) : ∀ (d m k : Nat), m + d = needL n → d < k → weirkeeperref08_Need.l0 k (n : Int) (m : Int) = some ((needL n : Nat) : Int) ∨ m < 1
  | 0, m, k, h, hk => by
    obtain ⟨k, rfl⟩ : ∃ j, k = j + 1 := ⟨k - 1, by omega⟩
    refine .inl ?_
    have hm : m = needL n := by omega
    subst hm
    rw [weirkeeperref08_Need.l0, wrap64_in (by omega) (by unfold needL; omega), if_neg (by unfold needL; omega)]
  | d + 1, m, k, h, hk => by
    obtain ⟨k, rfl⟩ : ∃ j, k = j + 1 := ⟨k - 1, by omega⟩
    by_cases c : m < 1
    · exact .inr c
    · refine .inl ?_
      have hb : needL n ≤ 42 := by unfold needL; omega
      have hlt : 24 * m < n := by unfold needL at h; omega
      rw [weirkeeperref08_Need.l0, wrap64_in (by omega) (by omega), if_pos (by omega), wrap64_in (by omega) (by omega), show ((m : Int) + 1) = ((m + 1 : Nat) : Int) by omega]
      rcases rneed_loop n hn d (m + 1) k (by omega) (by omega) with h | h
      · exact h
      · omega
def needR (n : Int) : Int := if 0 ≤ n ∧ n ≤ 1000 then ((needL n.toNat : Nat) : Int) else 0
theorem rneed_eq (n : Int) (k : Nat) (hk : 50 ≤ k) : weirkeeperref08_Need.f k n = some (needR n) := by
  obtain ⟨k, rfl⟩ : ∃ j, k = j + 1 := ⟨k - 1, by omega⟩
  unfold weirkeeperref08_Need.f needR
  by_cases c : n < 0
  · rw [if_pos c, weirkeeperref08_Need.j0, if_pos rfl, if_neg (by omega)]
  · rw [if_neg c, weirkeeperref08_Need.j0]
    by_cases c2 : n > 1000
    · rw [if_pos (decide_eq_true c2), if_neg (by omega)]
    · obtain ⟨m, rfl⟩ := Int.eq_ofNat_of_zero_le (by omega : 0 ≤ n)
      rw [if_neg (by rw [decide_eq_false c2]; decide), if_pos (by omega), Int.toNat_natCast]
      have hb : needL m ≤ 42 ∧ 1 ≤ needL m := by unfold needL; omega
      rcases rneed_loop m (by omega) (needL m - 1) 1 k (by omega) (by omega) with h | h
      · exact h
      · omega
theorem rmay_eq (g a : Int) : weirkeeperref08_May.f g a = some (decide ((1 ≤ g ∧ g ≤ 2147483647) ∧ 0 ≤ a ∧ a ≤ 128)) := by
  unfold weirkeeperref08_May.f
  by_cases c1 : g ≥ 1
  · by_cases c2 : g ≤ 2147483647
    · by_cases c3 : a ≥ 0
      · rw [if_pos c1, if_pos c2, if_pos c3]
        congr 1
        rw [decide_eq_decide]
        omega
      · rw [if_pos c1, if_pos c2, if_neg c3, decide_eq_false (by omega)]
    · rw [if_pos c1, if_neg c2, decide_eq_false (by omega)]
  · rw [if_neg c1, decide_eq_false (by omega)]
theorem rpad (g a n : Int) (t : ByteArray) (i : Int) (out : List ByteArray) (ho : out.length < 1000) : ∀ (d : Nat) (s : List UInt8) (k : Nat), s.length + d = 32 → d < k →
    weirkeeperref08_Pieces.l1 k g a t n out i (B s) = weirkeeperref08_Pieces.l0 (k - d - 1) g a t n (out ++ [B (s ++ List.replicate d 0)]) (wrap64 (i + 1))
  | 0, s, k, h, hk => by
    obtain ⟨k, rfl⟩ : ∃ j, k = j + 1 := ⟨k - 1, by omega⟩
    rw [weirkeeperref08_Pieces.l1, B_size, if_neg (by omega), if_pos (by omega), List.replicate_zero, List.append_nil]
    rfl
  | d + 1, s, k, h, hk => by
    obtain ⟨k, rfl⟩ : ∃ j, k = j + 1 := ⟨k - 1, by omega⟩
    rw [weirkeeperref08_Pieces.l1, B_size, if_pos (by omega), if_pos (by omega), show (⟨#[0]⟩ : ByteArray) = B [0] from rfl, B_append, rpad g a n t i out ho d (s ++ [0]) k (by rw [List.length_append, List.length_singleton]; omega) (by omega), List.append_assoc]
    congr 1
    omega
theorem rstep (gen a : Nat) (t : List UInt8) (hg : gen < 4294967296) (ht : t.length ≤ 1000) (ha : a + needL t.length ≤ 10000) (i k : Nat) (out : List ByteArray) (hi : i < needL t.length) (ho : out.length = i) (hk : 60 ≤ k) :
    ∃ k', k ≤ k' + 50 ∧ weirkeeperref08_Pieces.l0 k (gen : Int) (a : Int) (B t) ((needL t.length : Nat) : Int) out (i : Int) = weirkeeperref08_Pieces.l0 k' (gen : Int) (a : Int) (B t) ((needL t.length : Nat) : Int) (out ++ [B (pieceL gen (a + i) (t.drop (24 * i)))]) ((i + 1 : Nat) : Int) := by
  obtain ⟨k, rfl⟩ : ∃ j, k = j + 2 := ⟨k - 2, by omega⟩
  have hn : needL t.length ≤ 42 := by unfold needL; omega
  have hit : 24 * i ≤ t.length := by unfold needL at hi; omega
  have e1 : wrap64 (24 * (i : Int)) = ((24 * i : Nat) : Int) := by rw [wrap64_in (by omega) (by omega)]; omega
  have e2 : wrap64 ((a : Int) + (i : Int)) = ((a + i : Nat) : Int) := by clear e1; rw [wrap64_in (by omega) (by omega)]; omega
  have e3 : wrap64 ((i : Int) + 1) = ((i + 1 : Nat) : Int) := by clear e1 e2; rw [wrap64_in (by omega) (by omega)]; omega
  generalize hx : t.drop (24 * i) = x
  have hxl : x.length ≤ 1000 := by rw [← hx, List.length_drop]; clear e1 e2 e3; omega
  have u1 : IntKind.u64.wrap (gen : Int) = (gen : Int) := u64_in (by clear e1 e2 e3; omega) (by clear e1 e2 e3; omega)
  have u2 : IntKind.u64.wrap ((a + i : Nat) : Int) = ((a + i : Nat) : Int) := by clear e1 e2 e3 u1; exact u64_in (by omega) (by omega)
  have u3 : IntKind.u64.wrap (x.length : Int) = (x.length : Int) := by clear e1 e2 e3 u1 u2; exact u64_in (by omega) (by omega)
  have n1 : weirkeeperref01_Num.f (k + 1) (gen : Int) 4 = some (B (be gen 4), 0) := by clear e1 e2 e3 u1 u2 u3; exact (rnum_eq gen (by omega) 4 (k + 1) (by omega)).trans (congrArg some (numR_ok gen 4 (by omega) (by omega) (by omega)))
  have n2 : weirkeeperref01_Num.f (k + 1) ((a + i : Nat) : Int) 2 = some (B (be (a + i) 2), 0) := by clear e1 e2 e3 u1 u2 u3; exact (rnum_eq (a + i) (by omega) 2 (k + 1) (by omega)).trans (congrArg some (numR_ok (a + i) 2 (by omega) (by omega) (by omega)))
  have n3 : weirkeeperref01_Num.f (k + 1) (x.length : Int) 2 = some (B (be x.length 2), 0) := by clear e1 e2 e3 u1 u2 u3; exact (rnum_eq x.length (by omega) 2 (k + 1) (by omega)).trans (congrArg some (numR_ok x.length 2 (by omega) (by omega) (by omega)))
  have hex : (B t).extract (24 * i) (B t).size = B x := by rw [B_extract_all, hx]
  have hj : ∀ y : List UInt8, y = x.take 24 → weirkeeperref08_Pieces.j2 (k + 1) (gen : Int) (a : Int) (B t) ((needL t.length : Nat) : Int) out (i : Int) (B y) (B (be gen 4)) (B (be (a + i) 2)) (B (be x.length 2)) =
      weirkeeperref08_Pieces.l0 (k - (24 - x.length) - 1) (gen : Int) (a : Int) (B t) ((needL t.length : Nat) : Int) (out ++ [B (pieceL gen (a + i) x)]) ((i + 1 : Nat) : Int) := fun y hy => by
    subst hy
    have hl : (headL gen (a + i) x.length ++ x.take 24).length + (24 - x.length) = 32 := by clear e1 e2 e3 u1 u2 u3; rw [List.length_append, headL_length, List.length_take]; omega
    have hp := rpad (gen : Int) (a : Int) ((needL t.length : Nat) : Int) (B t) (i : Int) out (by clear e1 e2 e3 u1 u2 u3; omega) (24 - x.length) (headL gen (a + i) x.length ++ x.take 24) k hl (by clear e1 e2 e3 u1 u2 u3; omega)
    rw [weirkeeperref08_Pieces.j2, B_append, B_append, B_append, B_size, B_size, B_size, B_size, B_size, if_pos (by rw [be_length, be_length]; decide), if_pos (by rw [List.length_append, be_length, be_length, be_length]; decide),
      if_pos (by clear e1 e2 e3 u1 u2 u3; rw [List.length_append, List.length_append, be_length, be_length, be_length, B_size, List.length_take]; omega), show be gen 4 ++ be (a + i) 2 ++ be x.length 2 = headL gen (a + i) x.length from rfl, hp, e3]
    rfl
  refine ⟨k - (24 - x.length) - 1, by clear e1 e2 e3 u1 u2 u3; omega, ?_⟩
  rw [weirkeeperref08_Pieces.l0, if_pos (by clear e1 e2 e3 u1 u2 u3; omega), e1, if_pos (by clear e1 e2 e3 u1 u2 u3; omega), if_pos (by clear e1 e2 e3 u1 u2 u3; rw [B_size]; omega), Int.toNat_natCast, hex, B_size, e2, u1, u2, u3, n1, Option.bind_some, n2, Option.bind_some, n3, Option.bind_some]
  by_cases c : x.length ≤ 24
  · rw [if_neg (by clear e1 e2 e3 u1 u2 u3; omega)]
    exact hj x (List.take_of_length_le c).symm
  · rw [if_pos (by clear e1 e2 e3 u1 u2 u3; omega), if_pos (by decide), if_pos (by clear e1 e2 e3 u1 u2 u3; omega), B_extract, List.drop_zero]
    exact hj _ rfl
theorem rpieces_loop (gen a : Nat) (t : List UInt8) (hg : gen < 4294967296) (ht : t.length ≤ 1000) (ha : a + needL t.length ≤ 10000) : ∀ (d i k : Nat) (out : List ByteArray), i + d + 1 = needL t.length → out.length = i → 60 * (d + 1) + 20 ≤ k →
    weirkeeperref08_Pieces.l0 k (gen : Int) (a : Int) (B t) ((needL t.length : Nat) : Int) out (i : Int) = some (out ++ (recL gen (a + i) (t.drop (24 * i))).map B, 0)
  | 0, i, k, out, hi, ho, hk => by
    obtain ⟨k', h1, h2⟩ := rstep gen a t hg ht ha i k out (by omega) ho (by omega)
    obtain ⟨j, rfl⟩ : ∃ j, k' = j + 1 := ⟨k' - 1, by omega⟩
    have hs : (t.drop (24 * i)).length ≤ 24 := by rw [List.length_drop]; unfold needL at hi; omega
    rw [h2, weirkeeperref08_Pieces.l0, if_neg (by omega), recL_short _ _ _ hs]
    rfl
  | d + 1, i, k, out, hi, ho, hk => by
    obtain ⟨k', h1, h2⟩ := rstep gen a t hg ht ha i k out (by omega) ho (by omega)
    have hs : ¬ (t.drop (24 * i)).length ≤ 24 := by rw [List.length_drop]; unfold needL at hi; omega
    rw [h2, rpieces_loop gen a t hg ht ha d (i + 1) k' _ (by omega) (by rw [List.length_append, List.length_singleton, ho]) (by omega), recL_long _ _ _ hs, List.drop_drop, List.map_cons, List.append_assoc, show a + i + 1 = a + (i + 1) by omega, show 24 * i + 24 = 24 * (i + 1) by omega]
    rfl
theorem rpieces_eq (gen i : Int) (t : List UInt8) (ht : t.length ≤ 9000000000000) (k : Nat) (hk : 2700 ≤ k) : weirkeeperref08_Pieces.f k gen i (B t) = some (piecesR gen i t) := by
  obtain ⟨k, rfl⟩ : ∃ j, k = j + 1 := ⟨k - 1, by omega⟩
  unfold weirkeeperref08_Pieces.f piecesR
  rw [rmay_eq, Option.bind_some]
  by_cases c1 : (1 ≤ gen ∧ gen ≤ 2147483647) ∧ 0 ≤ i ∧ i ≤ 128
  · rw [decide_eq_true c1, if_pos rfl, weirkeeperref08_Pieces.j0, B_size]
    by_cases c3 : t.length ≤ 1000
    · have hb : needL t.length ≤ 42 ∧ 1 ≤ needL t.length := by unfold needL; omega
      obtain ⟨g, rfl⟩ := Int.eq_ofNat_of_zero_le (by omega : 0 ≤ gen)
      obtain ⟨n, rfl⟩ := Int.eq_ofNat_of_zero_le (by omega : 0 ≤ i)
      rw [if_neg (by rw [decide_eq_false (by omega)]; decide), rneed_eq _ k (by omega), Option.bind_some, needR, if_pos (show (0 : Int) ≤ (t.length : Int) ∧ (t.length : Int) ≤ 1000 by omega), Int.toNat_natCast, if_pos (show ((1 : Int) ≤ (g : Int) ∧ (g : Int) ≤ 2147483647) ∧ (0 ≤ (n : Int) ∧ (n : Int) ≤ 128) ∧ t.length ≤ 1000 from ⟨c1.1, c1.2, c3⟩), wrap64_in (by omega) (by omega)]
      by_cases c4 : n + needL t.length ≤ 128
      · have := rpieces_loop g n t (by omega) c3 (by omega) (needL t.length - 1) 0 k [] (by omega) rfl (by omega)
        rw [if_neg (by omega), if_pos (by omega), show (0 : Int) = ((0 : Nat) : Int) from rfl, this]
        rfl
      · rw [if_pos (by omega), if_neg (by omega)]
    · rw [if_pos (decide_eq_true (by omega)), if_neg (fun h => c3 h.2.2)]
  · rw [decide_eq_false c1, if_neg (by decide), weirkeeperref08_Pieces.j0, if_pos rfl, if_neg (fun h => c1 ⟨h.1, h.2.1⟩)]
end Go.Proofs.Ytpkapldkmleppaa.Pl
