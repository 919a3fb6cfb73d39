/- What the functions of the document's answer for pack come to. -/
import Derived.Test.YtpkapldkmleppaaFref01
import Derived.Test.YtpkapldkmleppaaBase
import Derived.Test.YtpkapldkmleppaaPackSpec
namespace Go.Proofs.Ytpkapldkmleppaa.Pl
open Go.RowKit Go.Proofs.Ytpkapldkmleppaa.F Go.Proofs.YtpkapldkmleppaaW.PrintWords Go.Proofs.YtpkapldkmleppaaW.PrintLast Go.Proofs.YtpkapldkmleppaaW.PrintMore
set_option linter.unusedVariables false
set_option linter.unusedSimpArgs false

theorem rnum_loop (n s : Nat) (hn : n < 18446744073709551616) (hs : s ≤ 8) (d : Nat) : ∀ (k i : Nat), i + d = s → d < k →
    weirkeeperref01_Num.l0 k ((n / 256 ^ i : Nat) : Int) (s : Int) (B (be n i)) (i : Int) = some (if n < 256 ^ s then (B (be n s), 0) else (B [], 1)) := by
  induction d with
  | zero =>
    intro k i hi hk
    obtain ⟨k, rfl⟩ : ∃ m, k = m + 1 := ⟨k - 1, by omega⟩
    have e : i = s := by omega
    subst e
    simp only [weirkeeperref01_Num.l0]
    rw [if_neg (by omega)]
    by_cases hb : n < 256 ^ i
    · rw [if_pos hb, if_neg (by simp [Nat.div_eq_of_lt hb])]
    · have : 0 < n / 256 ^ i := Nat.div_pos (by omega) (Nat.pow_pos (by decide))
      rw [if_neg hb, if_pos (by omega)]
      rfl
  | succ d ih =>
    intro k i hi hk
    obtain ⟨k, rfl⟩ : ∃ m, k = m + 1 := ⟨k - 1, by omega⟩
    have w4 : wrap64 ((i : Int) + 1) = ((i + 1 : Nat) : Int) := by rw [wrap64_in (by omega) (by omega)]; omega
    have hle : n / 256 ^ i ≤ n := Nat.div_le_self _ _
    have e1 := tmod256 (n / 256 ^ i)
    have e2 : IntKind.u64.wrap (Int.tdiv ((n / 256 ^ i : Nat) : Int) 256) = ((n / 256 ^ (i + 1) : Nat) : Int) := by
      rw [tdiv256 _ (by omega), Nat.pow_succ, ← Nat.div_div_eq_div_mul]
    have e3 : strOfNums [((n / 256 ^ i % 256 : Nat) : Int)] = B [UInt8.ofNat (n / 256 ^ i % 256)] := rfl
    simp only [weirkeeperref01_Num.l0]
    rw [if_pos (by omega), e1, e2, Option.bind_some, e3, B_size, B_size, if_pos (by simp [be_length]; omega), B_append, w4]
    exact ih k (i + 1) (by omega) (by omega)

theorem rnum_eq (n : Nat) (hn : n < 18446744073709551616) (size : Int) (k : Nat) (hk : 12 ≤ k) :
    weirkeeperref01_Num.f k (n : Int) size = some (numR n size) := by
  obtain ⟨k, rfl⟩ : ∃ m, k = m + 1 := ⟨k - 1, by omega⟩
  unfold weirkeeperref01_Num.f numR
  by_cases h1 : size < 1
  · rw [if_pos h1, if_neg (by omega)]
    simp only [weirkeeperref01_Num.j0]
    rfl
  · rw [if_neg h1]
    simp only [weirkeeperref01_Num.j0]
    by_cases h2 : size > 8
    · rw [decide_eq_true h2, if_pos rfl, if_neg (by omega)]
      rfl
    · obtain ⟨s, rfl⟩ := Int.eq_ofNat_of_zero_le (show 0 ≤ size by omega)
      have := rnum_loop n s hn (by omega) s k 0 (by omega) (by omega)
      simp only [Nat.pow_zero, Nat.div_one, be] at this
      rw [decide_eq_false h2, if_neg (by decide), Int.toNat_natCast]
      refine this.trans ?_
      congr 1
      by_cases hb : n < 256 ^ s
      · rw [if_pos hb, if_pos ⟨by omega, by omega, hb⟩]
      · rw [if_neg hb, if_neg (fun hh => hb hh.2.2)]
theorem rtake_loop (l : List UInt8) (s : Nat) (hs : s ≤ 8) (hl : s ≤ l.length) (d : Nat) : ∀ (k i : Nat), i + d = s → d < k →
    weirkeeperref01_Take.l0 k (B l) (s : Int) ((val (l.take i) : Nat) : Int) (i : Int) = some (((val (l.take s) : Nat) : Int), B (l.drop s), 0) := by
  induction d with
  | zero =>
    intro k i hi hk
    obtain ⟨k, rfl⟩ : ∃ m, k = m + 1 := ⟨k - 1, by omega⟩
    have e : i = s := by omega
    subst e
    simp only [weirkeeperref01_Take.l0]
    rw [if_neg (by omega), if_pos (by omega), if_pos (by rw [B_size]; omega), Int.toNat_natCast, B_extract_all]
  | succ d ih =>
    intro k i hi hk
    obtain ⟨k, rfl⟩ : ∃ m, k = m + 1 := ⟨k - 1, by omega⟩
    have w4 : wrap64 ((i : Int) + 1) = ((i + 1 : Nat) : Int) := by rw [wrap64_in (by omega) (by omega)]; omega
    have hv : val (l.take i) < 256 ^ 7 := by
      have h1 := val_lt (l.take i)
      have h2 : (l.take i).length = i := by simp; omega
      rw [h2] at h1
      exact Nat.lt_of_lt_of_le h1 (Nat.pow_le_pow_right (by decide) (by omega))
    have hb : l[i].toNat < 256 := l[i].toNat_lt
    have hbt : bt (B l) (i : Int) = (l[i].toNat : Int) := bt_B l i (by simp; omega)
    have e1 : IntKind.u64.wrap (((val (l.take i) : Nat) : Int) * 256) = ((val (l.take i) : Nat) : Int) * 256 := u64_in (by omega) (by omega)
    have e2 : IntKind.u64.wrap (l[i].toNat : Int) = (l[i].toNat : Int) := u64_in (by omega) (by omega)
    have e3 : IntKind.u64.wrap (((val (l.take i) : Nat) : Int) * 256 + (l[i].toNat : Int)) = ((val (l.take (i + 1)) : Nat) : Int) := by
      rw [u64_in (by omega) (by omega), List.take_succ_eq_append_getElem (by omega), val_append_one]
      omega
    simp only [weirkeeperref01_Take.l0]
    rw [if_pos (by omega), if_pos (by omega), if_pos (by rw [B_size]; omega), hbt, e1, e2, e3, w4]
    exact ih k (i + 1) (by omega) (by omega)

theorem rtake_eq (l : List UInt8) (size : Int) (k : Nat) (hk : 12 ≤ k) :
    weirkeeperref01_Take.f k (B l) size = some (takeR l size) := by
  obtain ⟨k, rfl⟩ : ∃ m, k = m + 1 := ⟨k - 1, by omega⟩
  unfold weirkeeperref01_Take.f takeR
  by_cases h1 : size < 1
  · rw [if_pos h1, if_neg (by omega)]
    simp only [weirkeeperref01_Take.j0]
    rfl
  · rw [if_neg h1]
    simp only [weirkeeperref01_Take.j0]
    by_cases h2 : size > 8
    · rw [decide_eq_true h2, if_pos rfl, if_neg (by omega)]
      rfl
    · obtain ⟨s, rfl⟩ := Int.eq_ofNat_of_zero_le (show 0 ≤ size by omega)
      rw [decide_eq_false h2, if_neg (by decide), B_size, if_pos (show 1 ≤ (s : Int) ∧ (s : Int) ≤ 8 by omega), Int.toNat_natCast]
      by_cases hc : l.length < s
      · rw [if_pos (by omega), if_pos hc]
        rfl
      · rw [if_neg (by omega), if_neg hc]
        have := rtake_loop l s (by omega) (by omega) s k 0 (by omega) (by omega)
        simpa [val] using this
end Go.Proofs.Ytpkapldkmleppaa.Pl
