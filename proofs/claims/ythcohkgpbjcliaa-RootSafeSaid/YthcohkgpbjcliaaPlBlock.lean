/- What the functions of package block come to, in plain words. -/
import Derived.Test.YthcohkgpbjcliaaFblock
import Derived.Test.YthcohkgpbjcliaaPlPackN
import Derived.Test.YthcohkgpbjcliaaPlImg
namespace Go.Proofs.Ythcohkgpbjcliaa.Pl
open Go.RowKit Go.Proofs.Ythcohkgpbjcliaa.F Go.Proofs.YthcohkgpbjcliaaW.PrintWords Go.Proofs.YthcohkgpbjcliaaW.PrintLast Go.Proofs.YthcohkgpbjcliaaW.PrintMore
set_option linter.unusedVariables false
set_option linter.unusedSimpArgs false
theorem moreN_append : ∀ (a b : List UInt8) (s : Nat), moreN s (a ++ b) = moreN (moreN s a) b
  | [], b, s => rfl
  | c :: a, b, s => by rw [List.cons_append, moreN, moreN, moreN_append a b]
theorem moreN_lt : ∀ (l : List UInt8) (s : Nat), s < 16777216 → moreN s l < 16777216
  | [], s, h => h
  | c :: l, s, h => by
    rw [moreN]
    exact moreN_lt l _ (step_lt s c.toNat h c.toNat_lt).2
def sumN (l : List UInt8) : Nat := moreN 11994318 l
theorem more_eq (s : Nat) (hs : s < 16777216) (l : List UInt8) (hl : l.length ≤ 9000000000000) : check_More.f (s : Int) (B l) = some ((moreN s l : Nat) : Int) := by
  unfold check_More.f
  rw [if_pos ⟨by omega, by omega, by rw [B_size]; omega⟩, B_data]
  congr 3
  omega
theorem sum_eq (a b : List UInt8) (ha : a.length ≤ 9000000000000) (hb : b.length ≤ 9000000000000) (k : Nat) (hk : 5 ≤ k) : check_Sum.f k [B a, B b] = some ((sumN (a ++ b) : Nat) : Int) := by
  obtain ⟨k, rfl⟩ : ∃ j, k = j + 4 := ⟨k - 4, by omega⟩
  have h1 := moreN_lt a 11994318 (by decide)
  unfold check_Sum.f
  rw [check_Sum.l0, if_pos (by simp), if_pos (by omega), if_pos (by simp), show rdOf ByteArray.empty [B a, B b] 0 = B a from rfl, show (11994318 : Int) = ((11994318 : Nat) : Int) from rfl, more_eq _ (by decide) a ha, Option.bind_some, wrap64_in (by omega) (by omega),
    check_Sum.l0, if_pos (by simp), if_pos (by omega), if_pos (by simp), show rdOf ByteArray.empty [B a, B b] (0 + 1) = B b from rfl, more_eq _ h1 b hb, Option.bind_some, wrap64_in (by omega) (by omega), check_Sum.l0, if_neg (by simp), sumN, moreN_append]
/-- the seven bytes ahead of a text -/
def headB (t : List UInt8) : List UInt8 := be t.length 4 ++ be (sumN (be t.length 4 ++ t)) 3
theorem headB_length (t : List UInt8) : (headB t).length = 7 := by simp [headB, be_length]
theorem numR_in (n s : Nat) (h0 : 1 ≤ s) (h1 : s ≤ 8) (h : n < 256 ^ s) : numR n (s : Int) = (B (be n s), 0) := by
  unfold numR
  rw [if_pos ⟨by omega, by omega, by rw [Int.toNat_natCast]; exact h⟩, Int.toNat_natCast]
theorem heading_eq (t : List UInt8) (ht : t.length < 4294967296) (k : Nat) (hk : 14 ≤ k) : block_heading.f k (B t) = some (B (headB t)) := by
  have h1 := moreN_lt (be t.length 4 ++ t) 11994318 (by decide)
  have n1 : pack_Num.f k (t.length : Int) 4 = some (B (be t.length 4), 0) := (num_eq t.length (by omega) 4 (by decide) k (by omega)).trans (congrArg some (numR_in t.length 4 (by omega) (by omega) (by omega)))
  have n2 : pack_Num.f k ((sumN (be t.length 4 ++ t) : Nat) : Int) 3 = some (B (be (sumN (be t.length 4 ++ t)) 3), 0) := (num_eq _ (by unfold sumN; omega) 3 (by decide) k (by omega)).trans (congrArg some (numR_in _ 3 (by omega) (by omega) (by unfold sumN; omega)))
  unfold block_heading.f
  rw [B_size, u64_in (by omega) (by omega), n1, Option.bind_some]
  simp only
  rw [sum_eq _ t (by rw [be_length]; omega) (by omega) k (by omega), Option.bind_some, u64_in (by omega) (by unfold sumN; omega), n2, Option.bind_some]
  simp only
  rw [if_pos (by rw [B_size, B_size, be_length, be_length]; decide), B_append]
  rfl
/-- how many sectors -/
def needB (n : Nat) : Nat := (n + 38) / 32
theorem bneed_eq (n : Nat) (h : n ≤ 65535) : block_Need.f (n : Int) = some ((needB n : Nat) : Int) := by
  unfold block_Need.f
  rw [if_neg (by omega), if_neg (by omega), wrap64_in (n := 7 + (n : Int)) (by omega) (by omega), wrap64_in (n := 7 + (n : Int) + 32) (by omega) (by omega), wrap64_in (n := 7 + (n : Int) + 32 - 1) (by omega) (by omega)]
  have : Int.tdiv (7 + (n : Int) + 32 - 1) 32 = ((needB n : Nat) : Int) := by
    rw [show 7 + (n : Int) + 32 - 1 = ((n + 38 : Nat) : Int) by omega, show (32 : Int) = ((32 : Nat) : Int) from rfl, ← Int.ofNat_tdiv]
    rfl
  rw [this, wrap64_in (by omega) (by unfold needB; omega)]
theorem bneed_bad (n : Int) (h : n < 0 ∨ 65535 < n) : block_Need.f n = some 0 := by
  unfold block_Need.f
  by_cases c : n < 0
  · rw [if_pos c]
  · rw [if_neg c, if_pos (by omega)]
theorem cutB_B (l : List UInt8) (h : l.length ≤ 4398046511104) : block_Cut.f (B l) = some ((cutL l).map B) := by
  unfold block_Cut.f
  rw [if_pos (by rw [B_size]; exact h), cutB, B_data]
/-- a text's sectors -/
def secB (t : List UInt8) : List (List UInt8) := cutL (headB t ++ t)
theorem secB_length (t : List UInt8) : (secB t).length = needB t.length := by
  unfold secB needB
  rw [cutL_length _ _ (Nat.le_refl _), List.length_append, headB_length]
  congr 1
  omega
theorem secB_32 (t : List UInt8) : ∀ s ∈ secB t, s.length = 32 := cutL_32 _ _ (Nat.le_refl _)
theorem Img.write {n : Nat} {S : List ByteArray} {W : List Wr} {I : List (List UInt8)} (h : Img n S W I) (hn : n ≤ 100000) (a : Nat) (t : List UInt8) (ht : t.length ≤ 65535) (ha : a + needB t.length ≤ S.length) (k : Nat) (hk : 14 ≤ k) :
    block_Write.f k S W (a : Int) (B t) = some (S, W ++ putW (a : Int) ((secB t).map B), 0) ∧ Img (n + needB t.length) S (W ++ putW (a : Int) ((secB t).map B)) (ovr a (secB t) I) := by
  have hp := h.put hn a (secB t) (by rw [secB_length]; exact ha) (secB_32 t)
  rw [secB_length] at hp
  refine ⟨?_, hp.2⟩
  unfold block_Write.f
  rw [B_size, if_neg (by omega), heading_eq t (by omega) k hk, Option.bind_some, B_size, headB_length, if_pos (by omega), B_append, cutB_B _ (by rw [List.length_append, headB_length]; omega), Option.bind_some]
  show (disk_Put.f S W (a : Int) ((secB t).map B)).bind _ = _
  rw [hp.1, Option.bind_some]
  rfl
/-- what cannot be written leaves the disk as it was -/
theorem write_bad {S : List ByteArray} {W : List Wr} (hf : disk_fit S W = true) (a : Int) (t : List UInt8) (ht : t.length ≤ 140737488351232) (h : ¬ (disk_right S W = true ∧ t.length ≤ 65535 ∧ 0 ≤ a ∧ a + (needB t.length : Nat) ≤ (S.length : Nat))) (k : Nat) (hk : 14 ≤ k) :
    block_Write.f k S W a (B t) = some (S, W, 1) := by
  unfold block_Write.f
  rw [B_size]
  by_cases c : t.length ≤ 65535
  · rw [if_neg (by omega), heading_eq t (by omega) k hk, Option.bind_some, B_size, headB_length, if_pos (by omega), B_append, cutB_B _ (by rw [List.length_append, headB_length]; omega), Option.bind_some]
    show (disk_Put.f S W a ((secB t).map B)).bind _ = _
    have hb : (disk_right S W && thereB S.length a (((secB t).map B).length : Int) && !(((secB t).map B).any fun s => s.size != 32)) = false := by
      cases hr : disk_right S W with
      | false => rfl
      | true =>
        have : thereB S.length a (((secB t).map B).length : Int) = false := by
          rw [Bool.eq_false_iff]
          intro e
          rw [there_iff, List.length_map, secB_length] at e
          exact h ⟨hr, c, by omega, by omega⟩
        rw [this]
        rfl
    rw [Put_bad hf hb, Option.bind_some]
    rfl
  · rw [if_pos (by omega)]
/-- what a text's sectors tell -/
def readR (s : List UInt8) (n : Int) : ByteArray × Int :=
  if 4 ≤ s.length ∧ val (s.take 4) ≤ 65535 ∧ ((needB (val (s.take 4)) : Nat) : Int) = n then
    (if s = (secB ((s.drop 7).take (val (s.take 4)))).flatten then (B ((s.drop 7).take (val (s.take 4))), 0) else (B [], 4)) else (B [], 2)
theorem secB_flat (t : List UInt8) : (secB t).flatten = headB t ++ t ++ List.replicate (32 * needB t.length - (7 + t.length)) 0 := by
  unfold secB
  rw [cutL_text _ _ (Nat.le_refl _), List.length_append, headB_length]
  congr 3
  unfold needB
  omega
theorem flat32 : ∀ L : List (List UInt8), (∀ s ∈ L, s.length = 32) → L.flatten.length = 32 * L.length
  | [], _ => rfl
  | x :: r, hh => by rw [List.flatten_cons, List.length_append, flat32 r (fun s hs => hh s (List.mem_cons_of_mem _ hs)), hh x List.mem_cons_self, List.length_cons]; omega
theorem readB_eq (s : List UInt8) (n : Int) (hs : s.length ≤ 140737488351232) (h32 : s.length = 32 * n.toNat) (k : Nat) (hk : 16 ≤ k) (S : List ByteArray) (W : List Wr) (a : Int) (hr : disk_Read.f S W a n = some (B s, 0)) : block_Read.f k S W a n = some (readR s n) := by
  obtain ⟨k, rfl⟩ : ∃ j, k = j + 1 := ⟨k - 1, by omega⟩
  unfold block_Read.f readR
  rw [hr, Option.bind_some]
  simp only
  have ht : takeR s 4 = if s.length < 4 then (0, B [], 2) else (((val (s.take 4) : Nat) : Int), B (s.drop 4), 0) := by
    unfold takeR
    rw [if_pos (by decide)]
    rfl
  rw [if_pos trivial, take_eq s (by omega) 4 (k + 1) (by omega), Option.bind_some, ht]
  by_cases c1 : s.length < 4
  · rw [if_pos c1]
    simp only
    rw [if_neg (by decide), block_Read.j0, if_pos rfl, if_neg (by omega)]
    rfl
  · rw [if_neg c1]
    simp only
    have hv : val (s.take 4) < 4294967296 := by
      have := val_lt (s.take 4)
      rw [List.length_take, show min 4 s.length = 4 by omega] at this
      exact this
    rw [if_pos trivial]
    by_cases c2 : val (s.take 4) ≤ 65535
    · rw [if_neg (by omega), wrap64_in (by omega) (by omega), bneed_eq _ c2, Option.bind_some, block_Read.j0]
      by_cases c3 : ((needB (val (s.take 4)) : Nat) : Int) = n
      · have hb : 7 + val (s.take 4) ≤ s.length := by
          rw [h32, ← c3, Int.toNat_natCast]
          unfold needB
          omega
        have e1 : (B s).extract 7 (7 + val (s.take 4)) = B ((s.drop 7).take (val (s.take 4))) := by
          rw [B_extract]
          congr 1
          rw [List.drop_take]
          congr 1
          omega
        have hl : ((s.drop 7).take (val (s.take 4))).length = val (s.take 4) := by rw [List.length_take, List.length_drop]; omega
        rw [if_neg (by rw [bne_iff_ne]; exact fun h => h c3), wrap64_in (n := ((val (s.take 4) : Nat) : Int)) (by omega) (by omega), wrap64_in (by omega) (by omega), show (7 + ((val (s.take 4) : Nat) : Int)) = ((7 + val (s.take 4) : Nat) : Int) by omega, if_pos (by omega), if_pos (by rw [B_size]; omega), Int.toNat_natCast, e1, if_pos (show 4 ≤ s.length ∧ val (s.take 4) ≤ 65535 ∧ ((needB (val (s.take 4)) : Nat) : Int) = n from ⟨by omega, c2, c3⟩)]
        generalize (s.drop 7).take (val (s.take 4)) = t at hl ⊢
        have hj : strings_Join.f ((secB t).map B) ⟨#[]⟩ = some (B (secB t).flatten) := by
          have hx : joinB ((secB t).map B) ⟨#[]⟩ = B (secB t).flatten := by rw [joinB_eq, datas_B]
          have hfl := flat32 _ (secB_32 t)
          unfold strings_Join.f
          rw [hx, if_pos ⟨by rw [List.length_map, secB_length]; unfold needB; omega, by rw [B_size, hfl, secB_length]; unfold needB; omega⟩]
        rw [heading_eq t (by omega) k (by omega), Option.bind_some, B_size, B_size, headB_length, if_pos (by omega), B_append, cutB_B _ (by rw [List.length_append, headB_length]; omega), Option.bind_some]
        show ((strings_Join.f ((secB t).map B) ⟨#[]⟩).bind _) = _
        rw [hj, Option.bind_some, B_toList, B_toList]
        split <;> rfl
      · rw [if_pos (by rw [bne_iff_ne]; exact c3), if_neg (fun h => c3 h.2.2)]
        rfl
    · rw [if_pos (by omega), block_Read.j0, if_pos rfl, if_neg (fun h => c2 h.2.1)]
      rfl
theorem readR_back (t : List UInt8) (ht : t.length ≤ 65535) : readR (secB t).flatten ((needB t.length : Nat) : Int) = (B t, 0) := by
  have h7 := headB_length t
  have e1 : ((secB t).flatten).take 4 = be t.length 4 := by
    rw [secB_flat, headB, List.append_assoc, List.append_assoc, List.take_append_of_le_length (by rw [be_length]; omega), List.take_of_length_le (by rw [be_length]; omega)]
  have e2 : ((secB t).flatten).drop 7 = t ++ List.replicate (32 * needB t.length - (7 + t.length)) 0 := by
    rw [secB_flat, List.append_assoc, List.drop_append_of_le_length (by omega), List.drop_of_length_le (by omega), List.nil_append]
  have e3 : val (be t.length 4) = t.length := by rw [val_be]; omega
  unfold readR
  rw [e1, e2, e3, List.take_left, if_pos ⟨by rw [flat32 _ (secB_32 t), secB_length]; unfold needB; omega, ht, rfl⟩, if_pos rfl]
theorem Img.bread {n : Nat} {S : List ByteArray} {W : List Wr} {I : List (List UInt8)} (h : Img n S W I) (hn : n ≤ 100000) (a m : Nat) (ha : a + m ≤ S.length) (k : Nat) (hk : 16 ≤ k) :
    block_Read.f k S W (a : Int) (m : Int) = some (readR ((I.take (a + m)).drop a).flatten (m : Int)) := by
  have hl := h.len
  have h5 := h.le
  have h32 := flat32 ((I.take (a + m)).drop a) (fun s hs => h.all32 s (List.mem_of_mem_take (List.mem_of_mem_drop hs)))
  rw [List.length_drop, List.length_take, show min (a + m) I.length - a = m by omega] at h32
  exact readB_eq _ _ (by omega) (by rw [Int.toNat_natCast]; exact h32) k hk S W _ (h.read hn a m ha)
theorem ovr_mid {α : Type} (a : Nat) (T S : List α) (h : a + T.length ≤ S.length) : ((ovr a T S).take (a + T.length)).drop a = T := by
  have hl : (S.take a).length = a := by rw [List.length_take]; omega
  have h2 : (S.take a ++ T).length = a + T.length := by rw [List.length_append, hl]
  unfold ovr
  rw [List.take_append_of_le_length (by omega), List.take_of_length_le (by omega), List.drop_append_of_le_length (by omega), List.drop_of_length_le (by omega), List.nil_append]
/-- what is put elsewhere leaves a place alone -/
theorem ovr_far {α : Type} (b : Nat) (T S : List α) (hb : b + T.length ≤ S.length) (a n : Nat) (ha : a + n ≤ S.length) (h : b + T.length ≤ a ∨ a + n ≤ b) : ((ovr b T S).take (a + n)).drop a = (S.take (a + n)).drop a := by
  have hl : (S.take b).length = b := by rw [List.length_take]; omega
  apply List.ext_getElem?
  intro i
  rw [List.getElem?_drop, List.getElem?_drop, List.getElem?_take, List.getElem?_take]
  by_cases c : a + i < a + n
  · rw [if_pos c, if_pos c]
    unfold ovr
    rcases h with h | h
    · rw [List.getElem?_append_right (by rw [List.length_append, hl]; omega), List.length_append, hl, List.getElem?_drop]
      congr 1
      omega
    · rw [List.append_assoc, List.getElem?_append_left (by omega), List.getElem?_take, if_pos (by omega)]
  · rw [if_neg c, if_neg c]
theorem Img.of {S : List ByteArray} {W : List Wr} (h : disk_right S W = true) : Img W.length S W ((applyW alw 0 W S).map (·.data.toList)) :=
  ⟨Nat.le_refl _, h, by
    rw [List.map_map]
    conv => lhs; rw [← List.map_id (applyW alw 0 W S)]
    exact List.map_congr_left (fun x _ => B_of x)⟩
theorem Img.newN (n : Nat) (h1 : 1 ≤ n) (h2 : n ≤ 512) : Img 0 (List.replicate n zero32) [] (List.replicate n (List.replicate 32 0)) := ⟨Nat.le_refl _, new_right h1 h2, by rw [List.map_replicate]; rfl⟩
end Go.Proofs.Ythcohkgpbjcliaa.Pl
