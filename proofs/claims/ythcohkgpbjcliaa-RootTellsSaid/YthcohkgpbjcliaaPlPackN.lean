import Derived.Test.YthcohkgpbjcliaaFpack
import Derived.Test.YthcohkgpbjcliaaBase
import Derived.Test.YthcohkgpbjcliaaPackSpec
namespace Go.Proofs.Ythcohkgpbjcliaa.Pl
open Go.RowKit Go.Proofs.Ythcohkgpbjcliaa.F Go.Proofs.YthcohkgpbjcliaaW.PrintWords Go.Proofs.YthcohkgpbjcliaaW.PrintLast Go.Proofs.YthcohkgpbjcliaaW.PrintMore
set_option linter.unusedVariables false
set_option linter.unusedSimpArgs false
theorem fits_eq (a : Int) : pack_fits.f a = some (decide (1 ≤ a ∧ a ≤ 8)) := by
  unfold pack_fits.f
  by_cases h : a ≥ 1
  · rw [if_pos h]; congr 1; simp; omega
  · rw [if_neg h]; congr 1; simp; omega
theorem num_loop (n s : Nat) (hs : s ≤ 8) (d : Nat) : ∀ (k i : Nat), i + d = s → d < k →
    pack_Num.l0 k (n : Int) (s : Int) (List.replicate d 0 ++ (be n i).map fun b => (b.toNat : Int)) (s : Int) (i : Int) = some (B (be n s), 0) := by
  induction d with
  | zero =>
    intro k i hi hk
    obtain ⟨k, rfl⟩ : ∃ m, k = m + 1 := ⟨k - 1, by omega⟩
    have e : i = s := by omega
    subst e
    simp only [pack_Num.l0]
    rw [if_neg (by omega), List.replicate_zero, List.nil_append, strOfNums_map]
  | succ d ih =>
    intro k i hi hk
    obtain ⟨k, rfl⟩ : ∃ m, k = m + 1 := ⟨k - 1, by omega⟩
    have w1 : wrap64 (8 * (i : Int)) = 8 * (i : Int) := wrap64_in (by omega) (by omega)
    have w2 : wrap64 ((s : Int) - 1) = (s : Int) - 1 := wrap64_in (by omega) (by omega)
    have w3 : wrap64 ((s : Int) - 1 - i) = (d : Int) := by rw [wrap64_in (by omega) (by omega)]; omega
    have w4 : wrap64 ((i : Int) + 1) = ((i + 1 : Nat) : Int) := by rw [wrap64_in (by omega) (by omega)]; omega
    have hl : ((List.replicate (d + 1) 0 ++ (be n i).map fun b => (b.toNat : Int) : List Int).length : Int) = (s : Int) := by
      simp [be_length]; omega
    have hset : (List.replicate (d + 1) 0 ++ (be n i).map fun b => (b.toNat : Int) : List Int).set d (((n : Int) / 2 ^ min (8 * (i : Int)).toNat IntKind.u64.bits) % 256)
        = List.replicate d 0 ++ (be n (i + 1)).map fun b => (b.toNat : Int) := by
      rw [List.replicate_succ', List.append_assoc, List.singleton_append, set_mid _ _ _ _ d (by simp), div_pow256 n i (by omega), be]
      simp only [List.map_cons, UInt8.toNat_ofNat']
      congr 2
      omega
    simp only [pack_Num.l0, shr]
    rw [if_pos (by omega), w1, w2, w3, w4, hl, if_pos (by omega), if_pos (by omega), if_pos (by omega), Int.toNat_natCast, hset]
    exact ih k (i + 1) (by omega) (by omega)
theorem num_eq (n : Nat) (hn : n < 18446744073709551616) (size : Int) (hs : -9223372036854775808 ≤ size ∧ size ≤ 9223372036854775807) (k : Nat) (hk : 12 ≤ k) :
    pack_Num.f k (n : Int) size = some (numR n size) := by
  obtain ⟨k, rfl⟩ : ∃ m, k = m + 1 := ⟨k - 1, by omega⟩
  unfold pack_Num.f numR
  rw [fits_eq, Option.bind_some]
  by_cases h : 1 ≤ size ∧ size ≤ 8
  · obtain ⟨s, rfl⟩ := Int.eq_ofNat_of_zero_le (show 0 ≤ size by omega)
    have hp : ∀ b, pack_Num.j0 (k + 1) (n : Int) (s : Int) b = if b = true then some (B [], 1) else some (B (be n s), 0) := by
      intro b
      have := num_loop n s (by omega) s k 0 (by omega) (by omega)
      simp only [be, List.map_nil, List.append_nil] at this
      cases b with
      | true => simp only [pack_Num.j0]; rfl
      | false =>
        simp only [pack_Num.j0]
        rw [if_neg (by decide), if_pos (by omega), if_pos (by omega), Option.bind_some, Int.toNat_natCast, List.length_replicate, if_neg (by decide)]
        exact this
    rw [decide_eq_true h, if_pos rfl, Int.toNat_natCast]
    by_cases h8 : (s : Int) < 8
    · have w1 : wrap64 (8 * (s : Int)) = 8 * (s : Int) := wrap64_in (by omega) (by omega)
      rw [if_pos h8, w1, if_pos (by omega), shr, div_pow256 n s (by omega), hp]
      by_cases hb : n < 256 ^ s
      · rw [Nat.div_eq_of_lt hb, if_neg (by decide), if_pos ⟨h.1, h.2, hb⟩]
      · have : 0 < n / 256 ^ s := Nat.div_pos (by omega) (Nat.pow_pos (by decide))
        rw [if_pos (decide_eq_true (Int.natCast_pos.mpr this)), if_neg (fun hh => hb hh.2.2)]
    · have e : s = 8 := by omega
      subst e
      rw [if_neg h8, hp, if_neg (by decide), if_pos ⟨h.1, h.2, hn⟩]
  · rw [decide_eq_false h, if_neg (by decide), if_neg (fun hh => h ⟨hh.1, hh.2.1⟩)]
    simp only [pack_Num.j0]
    rfl
theorem take_loop (l : List UInt8) (s : Nat) (hs : s ≤ 8) (hl : s ≤ l.length) (d : Nat) : ∀ (k i : Nat), i + d = s → d < k →
    pack_Take.l0 k (B l) (s : Int) ((val (l.take i) : Nat) : Int) (s : Int) (i : Int) = some (((val (l.take s) : Nat) : Int), B (l.drop s), 0) := by
  induction d with
  | zero =>
    intro k i hi hk
    obtain ⟨k, rfl⟩ : ∃ m, k = m + 1 := ⟨k - 1, by omega⟩
    have e : i = s := by omega
    subst e
    simp only [pack_Take.l0]
    rw [if_neg (by omega), if_pos (by omega), if_pos (by rw [B_size]; omega), Int.toNat_natCast, B_extract_all]
  | succ d ih =>
    intro k i hi hk
    obtain ⟨k, rfl⟩ : ∃ m, k = m + 1 := ⟨k - 1, by omega⟩
    have w4 : wrap64 ((i : Int) + 1) = ((i + 1 : Nat) : Int) := by rw [wrap64_in (by omega) (by omega)]; omega
    have hv : val (l.take i) < 256 ^ 7 := by
      have h1 := val_lt (l.take i)
      have h2 : (l.take i).length = i := by simp; omega
      rw [h2] at h1
      exact Nat.lt_of_lt_of_le h1 (Nat.pow_le_pow_right (by decide) (by omega))
    have hb : l[i].toNat < 256 := l[i].toNat_lt
    have hbt : bt (B l) (i : Int) = (l[i].toNat : Int) := bt_B l i (by simp; omega)
    have e1 : IntKind.u64.wrap (((val (l.take i) : Nat) : Int) * 256) = ((val (l.take i) : Nat) : Int) * 256 := u64_in (by omega) (by omega)
    have e2 : IntKind.u64.wrap (l[i].toNat : Int) = (l[i].toNat : Int) := u64_in (by omega) (by omega)
    have e3 : Go.bits .or .u64 (((val (l.take i) : Nat) : Int) * 256) (l[i].toNat : Int) = ((val (l.take (i + 1)) : Nat) : Int) := by
      rw [Go.bits_join .u64 64 (by decide) (fun m h0 h1 => u64_in h0 (by omega)) 8 _ _ (by omega) (by omega) (by omega) (by omega) (by omega) (by omega),
        List.take_succ_eq_append_getElem (by omega), val_append_one]
      omega
    simp only [pack_Take.l0]
    rw [if_pos (by omega), if_pos (by omega), if_pos (by rw [B_size]; omega), hbt, e1, e2, e3, w4]
    exact ih k (i + 1) (by omega) (by omega)
theorem take_eq (l : List UInt8) (hl : l.length ≤ 9223372036854775807) (size : Int) (k : Nat) (hk : 12 ≤ k) :
    pack_Take.f k (B l) size = some (takeR l size) := by
  unfold pack_Take.f takeR
  rw [fits_eq, Option.bind_some]
  by_cases h : 1 ≤ size ∧ size ≤ 8
  · obtain ⟨s, rfl⟩ := Int.eq_ofNat_of_zero_le (show 0 ≤ size by omega)
    rw [decide_eq_true h, if_pos rfl, if_pos h, Int.toNat_natCast, B_size]
    by_cases hc : l.length < s
    · rw [if_pos (by omega), if_pos hc]
      rfl
    · rw [if_neg (by omega), if_neg hc]
      have := take_loop l s (by omega) (by omega) s k 0 (by omega) (by omega)
      simpa [val] using this
  · rw [decide_eq_false h, if_neg (by decide), if_neg h]
    rfl
theorem rdOf_B (ls : List (List UInt8)) (i : Nat) (h : i < ls.length) : rdOf ByteArray.empty (ls.map B) (i : Int) = B ls[i] := by
  simp [rdOf, h]
end Go.Proofs.Ythcohkgpbjcliaa.Pl
