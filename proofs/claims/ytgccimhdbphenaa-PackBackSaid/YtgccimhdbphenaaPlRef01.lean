/- What the functions of the document's answer for pack come to. -/
import Derived.Test.YtgccimhdbphenaaFref01
import Derived.Test.YtgccimhdbphenaaBase
import Derived.Test.YtgccimhdbphenaaPackSpec
namespace Go.Proofs.Ytgccimhdbphenaa.Pl
open Go.RowKit Go.Proofs.Ytgccimhdbphenaa.F Go.Proofs.YtgccimhdbphenaaW.PrintWords Go.Proofs.YtgccimhdbphenaaW.PrintLast Go.Proofs.YtgccimhdbphenaaW.PrintMore
set_option linter.unusedVariables false
set_option linter.unusedSimpArgs false

theorem same_loop (a b : List (List UInt8)) (hn : a.length ≤ 9223372036854775806) (hab : a.length = b.length) (d : Nat) : ∀ (k i : Nat), i + d = a.length → d < k →
    weirkeeperref01_Same.l0 k (a.map B) (b.map B) (i : Int) = some (decide (a.drop i = b.drop i)) := by
  induction d with
  | zero =>
    intro k i hi hk
    obtain ⟨k, rfl⟩ : ∃ m, k = m + 1 := ⟨k - 1, by omega⟩
    simp only [weirkeeperref01_Same.l0]
    rw [List.length_map, if_neg (by omega), List.drop_of_length_le (by omega), List.drop_of_length_le (by omega)]
    simp
  | succ d ih =>
    intro k i hi hk
    obtain ⟨k, rfl⟩ : ∃ m, k = m + 1 := ⟨k - 1, by omega⟩
    have w4 : wrap64 ((i : Int) + 1) = ((i + 1 : Nat) : Int) := by rw [wrap64_in (by omega) (by omega)]; omega
    have h1 : i < a.length := by omega
    have h2 : i < b.length := by omega
    have r1 : rdOf ByteArray.empty (a.map B) (i : Int) = B a[i] := by simp [rdOf, h1]
    have r2 : rdOf ByteArray.empty (b.map B) (i : Int) = B b[i] := by simp [rdOf, h2]
    simp only [weirkeeperref01_Same.l0]
    rw [List.length_map, List.length_map, if_pos (by omega), if_pos (by omega), if_pos (by omega), r1, r2, B_toList, B_toList, w4, List.drop_eq_getElem_cons h1, List.drop_eq_getElem_cons h2]
    by_cases e : a[i] = b[i]
    · rw [if_pos e, ih k (i + 1) (by omega) (by omega)]
      simp only [List.cons.injEq, e, true_and]
    · rw [if_neg e]
      simp only [List.cons.injEq, e, false_and, decide_false]

theorem same_eq (a b : List (List UInt8)) (hn : a.length ≤ 9223372036854775806) (k : Nat) (hk : a.length + 1 ≤ k) : weirkeeperref01_Same.f k (a.map B) (b.map B) = some (decide (a = b)) := by
  unfold weirkeeperref01_Same.f
  rw [List.length_map, List.length_map]
  by_cases h : a.length = b.length
  · have := same_loop a b hn h a.length k 0 (by omega) (by omega)
    rw [if_pos (by omega)]
    simpa using this
  · rw [if_neg (by omega)]
    congr 1
    symm
    rw [decide_eq_false_iff_not]
    intro e
    exact h (by rw [e])
theorem rnum_loop (n s : Nat) (hn : n < 18446744073709551616) (hs : s ≤ 8) (d : Nat) : ∀ (k i : Nat), i + d = s → d < k →
    weirkeeperref01_Num.l0 k ((n / 256 ^ i : Nat) : Int) (s : Int) (B (be n i)) (i : Int) = some (if n < 256 ^ s then (B (be n s), 0) else (B [], 1)) := by
  induction d with
  | zero =>
    intro k i hi hk
    obtain ⟨k, rfl⟩ : ∃ m, k = m + 1 := ⟨k - 1, by omega⟩
    have e : i = s := by omega
    subst e
    simp only [weirkeeperref01_Num.l0]
    rw [if_neg (by omega)]
    by_cases hb : n < 256 ^ i
    · rw [if_pos hb, if_neg (by simp [Nat.div_eq_of_lt hb])]
    · have : 0 < n / 256 ^ i := Nat.div_pos (by omega) (Nat.pow_pos (by decide))
      rw [if_neg hb, if_pos (by omega)]
      rfl
  | succ d ih =>
    intro k i hi hk
    obtain ⟨k, rfl⟩ : ∃ m, k = m + 1 := ⟨k - 1, by omega⟩
    have w4 : wrap64 ((i : Int) + 1) = ((i + 1 : Nat) : Int) := by rw [wrap64_in (by omega) (by omega)]; omega
    have hle : n / 256 ^ i ≤ n := Nat.div_le_self _ _
    have e1 := tmod256 (n / 256 ^ i)
    have e2 : IntKind.u64.wrap (Int.tdiv ((n / 256 ^ i : Nat) : Int) 256) = ((n / 256 ^ (i + 1) : Nat) : Int) := by
      rw [tdiv256 _ (by omega), Nat.pow_succ, ← Nat.div_div_eq_div_mul]
    have e3 : strOfNums [((n / 256 ^ i % 256 : Nat) : Int)] = B [UInt8.ofNat (n / 256 ^ i % 256)] := rfl
    simp only [weirkeeperref01_Num.l0]
    rw [if_pos (by omega), e1, e2, Option.bind_some, e3, B_size, B_size, if_pos (by simp [be_length]; omega), B_append, w4]
    exact ih k (i + 1) (by omega) (by omega)

theorem rnum_eq (n : Nat) (hn : n < 18446744073709551616) (size : Int) (k : Nat) (hk : 12 ≤ k) :
    weirkeeperref01_Num.f k (n : Int) size = some (numR n size) := by
  obtain ⟨k, rfl⟩ : ∃ m, k = m + 1 := ⟨k - 1, by omega⟩
  unfold weirkeeperref01_Num.f numR
  by_cases h1 : size < 1
  · rw [if_pos h1, if_neg (by omega)]
    simp only [weirkeeperref01_Num.j0]
    rfl
  · rw [if_neg h1]
    simp only [weirkeeperref01_Num.j0]
    by_cases h2 : size > 8
    · rw [decide_eq_true h2, if_pos rfl, if_neg (by omega)]
      rfl
    · obtain ⟨s, rfl⟩ := Int.eq_ofNat_of_zero_le (show 0 ≤ size by omega)
      have := rnum_loop n s hn (by omega) s k 0 (by omega) (by omega)
      simp only [Nat.pow_zero, Nat.div_one, be] at this
      rw [decide_eq_false h2, if_neg (by decide), Int.toNat_natCast]
      refine this.trans ?_
      congr 1
      by_cases hb : n < 256 ^ s
      · rw [if_pos hb, if_pos ⟨by omega, by omega, hb⟩]
      · rw [if_neg hb, if_neg (fun hh => hb hh.2.2)]
theorem rtake_loop (l : List UInt8) (s : Nat) (hs : s ≤ 8) (hl : s ≤ l.length) (d : Nat) : ∀ (k i : Nat), i + d = s → d < k →
    weirkeeperref01_Take.l0 k (B l) (s : Int) ((val (l.take i) : Nat) : Int) (i : Int) = some (((val (l.take s) : Nat) : Int), B (l.drop s), 0) := by
  induction d with
  | zero =>
    intro k i hi hk
    obtain ⟨k, rfl⟩ : ∃ m, k = m + 1 := ⟨k - 1, by omega⟩
    have e : i = s := by omega
    subst e
    simp only [weirkeeperref01_Take.l0]
    rw [if_neg (by omega), if_pos (by omega), if_pos (by rw [B_size]; omega), Int.toNat_natCast, B_extract_all]
  | succ d ih =>
    intro k i hi hk
    obtain ⟨k, rfl⟩ : ∃ m, k = m + 1 := ⟨k - 1, by omega⟩
    have w4 : wrap64 ((i : Int) + 1) = ((i + 1 : Nat) : Int) := by rw [wrap64_in (by omega) (by omega)]; omega
    have hv : val (l.take i) < 256 ^ 7 := by
      have h1 := val_lt (l.take i)
      have h2 : (l.take i).length = i := by simp; omega
      rw [h2] at h1
      exact Nat.lt_of_lt_of_le h1 (Nat.pow_le_pow_right (by decide) (by omega))
    have hb : l[i].toNat < 256 := l[i].toNat_lt
    have hbt : bt (B l) (i : Int) = (l[i].toNat : Int) := bt_B l i (by simp; omega)
    have e1 : IntKind.u64.wrap (((val (l.take i) : Nat) : Int) * 256) = ((val (l.take i) : Nat) : Int) * 256 := u64_in (by omega) (by omega)
    have e2 : IntKind.u64.wrap (l[i].toNat : Int) = (l[i].toNat : Int) := u64_in (by omega) (by omega)
    have e3 : IntKind.u64.wrap (((val (l.take i) : Nat) : Int) * 256 + (l[i].toNat : Int)) = ((val (l.take (i + 1)) : Nat) : Int) := by
      rw [u64_in (by omega) (by omega), List.take_succ_eq_append_getElem (by omega), val_append_one]
      omega
    simp only [weirkeeperref01_Take.l0]
    rw [if_pos (by omega), if_pos (by omega), if_pos (by rw [B_size]; omega), hbt, e1, e2, e3, w4]
    exact ih k (i + 1) (by omega) (by omega)

theorem rtake_eq (l : List UInt8) (size : Int) (k : Nat) (hk : 12 ≤ k) :
    weirkeeperref01_Take.f k (B l) size = some (takeR l size) := by
  obtain ⟨k, rfl⟩ : ∃ m, k = m + 1 := ⟨k - 1, by omega⟩
  unfold weirkeeperref01_Take.f takeR
  by_cases h1 : size < 1
  · rw [if_pos h1, if_neg (by omega)]
    simp only [weirkeeperref01_Take.j0]
    rfl
  · rw [if_neg h1]
    simp only [weirkeeperref01_Take.j0]
    by_cases h2 : size > 8
    · rw [decide_eq_true h2, if_pos rfl, if_neg (by omega)]
      rfl
    · obtain ⟨s, rfl⟩ := Int.eq_ofNat_of_zero_le (show 0 ≤ size by omega)
      rw [decide_eq_false h2, if_neg (by decide), B_size, if_pos (show 1 ≤ (s : Int) ∧ (s : Int) ≤ 8 by omega), Int.toNat_natCast]
      by_cases hc : l.length < s
      · rw [if_pos (by omega), if_pos hc]
        rfl
      · rw [if_neg (by omega), if_neg hc]
        have := rtake_loop l s (by omega) (by omega) s k 0 (by omega) (by omega)
        simpa [val] using this

theorem be2 (n : Nat) : be n 2 = [UInt8.ofNat (n / 256 % 256), UInt8.ofNat (n % 256)] := by simp [be]
theorem rtext_eq (l : List UInt8) : weirkeeperref01_Text.f (B l) = some (textR l) := by
  unfold weirkeeperref01_Text.f textR
  rw [B_size]
  by_cases h : l.length ≤ 65535
  · have e1 : wrap64 ((l.length : Int) / 256) % 256 = ((l.length / 256 % 256 : Nat) : Int) := by rw [wrap64_in (by omega) (by omega)]; omega
    have e2 : (l.length : Int) % 256 = ((l.length % 256 : Nat) : Int) := by omega
    have e3 : strOfNums [((l.length / 256 % 256 : Nat) : Int), ((l.length % 256 : Nat) : Int)] = B (be l.length 2) := by rw [be2]; rfl
    rw [if_neg (by omega), if_pos h, Option.bind_some, e1, e2, e3, B_size, be_length, if_pos (by omega), B_append]
  · rw [if_pos (by omega), if_neg h]
    rfl

theorem rtexts_loop (ls : List (List UInt8)) (hn : ls.length ≤ 9223372036854775806) (d : Nat) : ∀ (k i : Nat) (x : List UInt8), i + d = ls.length → d + 1 < k →
    x.length + (textsB (ls.drop i)).length ≤ 9223372036854775807 →
    weirkeeperref01_Texts.l0 k (ls.map B) (B x) (i : Int) = some (if ∀ l ∈ ls.drop i, l.length ≤ 65535 then (B (x ++ textsB (ls.drop i)), 0) else (B [], 1)) := by
  induction d with
  | zero =>
    intro k i x hi hk _
    obtain ⟨k, rfl⟩ : ∃ m, k = m + 1 := ⟨k - 1, by omega⟩
    simp only [weirkeeperref01_Texts.l0]
    rw [List.length_map, if_neg (by omega), List.drop_of_length_le (by omega), if_pos (by simp)]
    simp [textsB]
  | succ d ih =>
    intro k i x hi hk hx
    obtain ⟨k, rfl⟩ : ∃ m, k = m + 1 := ⟨k - 1, by omega⟩
    have w4 : wrap64 ((i : Int) + 1) = ((i + 1 : Nat) : Int) := by rw [wrap64_in (by omega) (by omega)]; omega
    have hlt : i < ls.length := by omega
    have hd : ls.drop i = ls[i] :: ls.drop (i + 1) := List.drop_eq_getElem_cons hlt
    have hr : rdOf ByteArray.empty (ls.map B) (i : Int) = B ls[i] := by simp [rdOf, hlt]
    rw [hd, textsB_cons] at hx
    simp only [List.length_append, be_length] at hx
    simp only [weirkeeperref01_Texts.l0]
    rw [List.length_map, if_pos (by omega), if_pos (by omega), hr, rtext_eq, Option.bind_some, textR, hd]
    by_cases h : ls[i].length ≤ 65535
    · rw [if_pos h]
      simp only
      rw [if_pos trivial, B_size, B_size, if_pos (by simp [be_length]; omega), w4, B_append, ih k (i + 1) _ (by omega) (by omega) (by simp [be_length]; omega)]
      congr 1
      rw [textsB_cons]
      by_cases ha : ∀ l ∈ ls.drop (i + 1), l.length ≤ 65535
      · rw [if_pos ha, if_pos (by intro l hl; rcases List.mem_cons.1 hl with rfl | hl; exact h; exact ha l hl)]
        simp
      · rw [if_neg ha, if_neg (fun hh => ha fun l hl => hh l (List.mem_cons_of_mem _ hl))]
    · rw [if_neg h]
      simp only
      rw [if_neg (by omega), if_neg (fun hh => h (hh _ (List.mem_cons_self ..)))]
      rfl

theorem rtexts_eq (ls : List (List UInt8)) (hn : ls.length ≤ 9223372036854775806) (hb : (textsB ls).length ≤ 9223372036854775807) (k : Nat) (hk : ls.length + 2 ≤ k) :
    weirkeeperref01_Texts.f k (ls.map B) = some (textsR ls) := by
  unfold weirkeeperref01_Texts.f textsR
  have := rtexts_loop ls hn ls.length k 0 [] (by omega) (by omega) (by simpa using hb)
  simpa [B_nil] using this

theorem val2 (l : List UInt8) (h : 2 ≤ l.length) : ((val (l.take 2) : Nat) : Int) = bt (B l) 0 * 256 + bt (B l) 1 := by
  have b0 : bt (B l) 0 = (l[0].toNat : Int) := bt_B l 0 (by simp; omega)
  have b1 : bt (B l) 1 = (l[1].toNat : Int) := bt_B l 1 (by simp; omega)
  rw [b0, b1]
  match l, h with
  | a :: b :: r, _ => simp [val]

theorem rtakeText_eq (l : List UInt8) (hl : l.length ≤ 9223372036854775807) : weirkeeperref01_TakeText.f (B l) = some (takeTextR l) := by
  unfold weirkeeperref01_TakeText.f takeTextR
  rw [B_size]
  by_cases h : l.length < 2
  · rw [if_pos (by omega), if_pos (Or.inl h)]
    rfl
  · have hv := val2 l (by omega)
    have r0 := bt_range (B l) 0
    have r1 := bt_range (B l) 1
    have e1 : wrap64 (bt (B l) 0) = bt (B l) 0 := wrap64_in (by omega) (by omega)
    have e2 : wrap64 (bt (B l) 1) = bt (B l) 1 := wrap64_in (by omega) (by omega)
    have e3 : wrap64 (bt (B l) 0 * 256) = bt (B l) 0 * 256 := wrap64_in (by omega) (by omega)
    have e4 : wrap64 (bt (B l) 0 * 256 + bt (B l) 1) = ((val (l.take 2) : Nat) : Int) := by rw [wrap64_in (by omega) (by omega), hv]
    have e5 : wrap64 (2 + ((val (l.take 2) : Nat) : Int)) = ((2 + val (l.take 2) : Nat) : Int) := by rw [wrap64_in (by omega) (by omega)]; omega
    rw [if_neg (by omega), if_pos (by omega), if_pos (by omega), e1, e2, e3, e4, e5]
    by_cases hc : l.length < 2 + val (l.take 2)
    · rw [if_pos (by omega), if_pos (Or.inr hc)]
      rfl
    · rw [if_neg (by omega), if_neg (show ¬(l.length < 2 ∨ l.length < 2 + val (l.take 2)) by omega), if_pos (by omega), if_pos (by omega), if_pos (by omega), Int.toNat_natCast]
      have x1 : (B l).extract 2 (2 + val (l.take 2)) = B ((l.drop 2).take (val (l.take 2))) := by
        rw [B_extract, List.drop_take]
        congr 2
        omega
      have x2 : (B l).extract (2 + val (l.take 2)) l.length = B ((l.drop 2).drop (val (l.take 2))) := by
        rw [B_extract, List.take_length, List.drop_drop]
      rw [x1, x2]

theorem rparts_loop (l : List UInt8) (hl : l.length < 8796093022208) (f : Nat) : ∀ (k at_ : Nat) (x : List ByteArray), (l.drop at_).length ≤ f → at_ ≤ l.length → f + 1 < k → x.length ≤ at_ →
    weirkeeperref01_Parts.l0 k (B l) x (at_ : Int) = some (match partsO f (l.drop at_) with | some r => (x ++ r.map B, 0) | none => ([], 2)) := by
  induction f with
  | zero =>
    intro k at_ x hf ha hk hx
    obtain ⟨k, rfl⟩ : ∃ m, k = m + 1 := ⟨k - 1, by omega⟩
    simp at hf
    simp only [weirkeeperref01_Parts.l0]
    rw [B_size, if_neg (by omega)]
    simp [partsO]
  | succ f ih =>
    intro k at_ x hf ha hk hx
    obtain ⟨k, rfl⟩ : ∃ m, k = m + 1 := ⟨k - 1, by omega⟩
    simp at hf
    simp only [weirkeeperref01_Parts.l0]
    rw [B_size]
    by_cases hlt : at_ < l.length
    · have hne : l.drop at_ ≠ [] := by
        intro e
        have := congrArg List.length e
        simp at this
        omega
      have hx1 : (B l).extract at_ l.length = B (l.drop at_) := by rw [B_extract, List.take_length]
      rw [if_pos (by omega), if_pos (by omega), if_pos (by omega), Int.toNat_natCast, hx1, rtakeText_eq _ (by simp; omega), Option.bind_some, takeTextR, partsO, if_neg hne]
      by_cases hc : (l.drop at_).length < 2 ∨ (l.drop at_).length < 2 + val ((l.drop at_).take 2)
      · rw [if_pos hc, if_pos hc]
        simp only
        rw [if_neg (by omega)]
      · rw [if_neg hc, if_neg hc]
        simp only
        have hc' : ¬((l.drop at_).length < 2 ∨ (l.drop at_).length < 2 + val ((l.drop at_).take 2)) := hc
        simp only [List.length_drop, not_or, Nat.not_lt] at hc
        have w : wrap64 ((l.length : Int) - ((B (((l.drop at_).drop 2).drop (val ((l.drop at_).take 2)))).size : Int)) = ((at_ + 2 + val ((l.drop at_).take 2) : Nat) : Int) := by
          rw [B_size, List.length_drop, List.length_drop, List.length_drop, wrap64_in (by omega) (by omega)]
          omega
        have hd : l.drop (at_ + 2 + val ((l.drop at_).take 2)) = ((l.drop at_).drop 2).drop (val ((l.drop at_).take 2)) := by rw [List.drop_drop, List.drop_drop, Nat.add_assoc]
        rw [if_pos trivial, if_pos (by omega), w, ih k _ _ (by simp; omega) (by omega) (by omega) (by simp; omega), hd]
        cases hp : partsO f (((l.drop at_).drop 2).drop (val ((l.drop at_).take 2))) <;> simp
    · have e : l.drop at_ = [] := List.drop_of_length_le (by omega)
      rw [if_neg (by omega), e]
      simp [partsO]

theorem rparts_eq (l : List UInt8) (hl : l.length < 8796093022208) (k : Nat) (hk : l.length + 2 ≤ k) : weirkeeperref01_Parts.f k (B l) = some (partsR l) := by
  unfold weirkeeperref01_Parts.f partsR
  have := rparts_loop l hl l.length k 0 [] (by simp) (by omega) (by omega) (by simp)
  simp only [List.drop_zero, List.nil_append] at this
  rw [show ((0 : Nat) : Int) = 0 from rfl] at this
  rw [this]
  cases partsO l.length l <;> rfl

theorem strs_of (l : List ByteArray) : l = (l.map fun s => s.data.toList).map B := by
  rw [List.map_map]
  conv => lhs; rw [← List.map_id l]
  apply List.map_congr_left
  intro s _
  exact B_of s

theorem textsB_short (ls : List (List UInt8)) (h : ∀ l ∈ ls, l.length ≤ 300) : (textsB ls).length ≤ 302 * ls.length := by
  induction ls with
  | nil => simp [textsB]
  | cons l ls ih =>
    have h1 := h l (List.mem_cons_self ..)
    have h2 := ih (fun x hx => h x (List.mem_cons_of_mem _ hx))
    rw [textsB_cons]
    simp [be_length]
    omega

end Go.Proofs.Ytgccimhdbphenaa.Pl
