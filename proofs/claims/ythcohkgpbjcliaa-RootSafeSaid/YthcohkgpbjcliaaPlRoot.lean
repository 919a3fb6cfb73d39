/- What the functions of package root come to, in plain words. -/
import Derived.Test.YthcohkgpbjcliaaFroot
import Derived.Test.YthcohkgpbjcliaaPlBlock
namespace Go.Proofs.Ythcohkgpbjcliaa.Pl
open Go.RowKit Go.Proofs.Ythcohkgpbjcliaa.F Go.Proofs.YthcohkgpbjcliaaW.PrintWords Go.Proofs.YthcohkgpbjcliaaW.PrintLast Go.Proofs.YthcohkgpbjcliaaW.PrintMore
set_option linter.unusedVariables false
set_option linter.unusedSimpArgs false
def rootT (g a m : Nat) : List UInt8 := be g 4 ++ be a 4 ++ be m 4
theorem rootT_length (g a m : Nat) : (rootT g a m).length = 12 := by simp [rootT, be_length]
theorem needB_root (g a m : Nat) : needB (rootT g a m).length = 1 := by rw [rootT_length]; rfl
theorem rootN0 (g a m : Nat) (hg : g < 4294967296) : rootN (rootT g a m) 0 = g := by
  unfold rootN rootT
  rw [Nat.mul_zero, List.drop_zero, List.append_assoc, List.take_append_of_le_length (by rw [be_length]; omega), List.take_of_length_le (by rw [be_length]; omega), val_be]
  omega
theorem rootN1 (g a m : Nat) (ha : a < 4294967296) : rootN (rootT g a m) 1 = a := by
  unfold rootN rootT
  rw [show 4 * 1 = (be g 4).length by rw [be_length], List.append_assoc, List.drop_left, List.take_append_of_le_length (by rw [be_length]; omega), List.take_of_length_le (by rw [be_length]; omega), val_be]
  omega
theorem rootN2 (g a m : Nat) (hm : m < 4294967296) : rootN (rootT g a m) 2 = m := by
  unfold rootN rootT
  rw [show 4 * 2 = (be g 4 ++ be a 4).length by rw [List.length_append, be_length, be_length], List.drop_left, List.take_of_length_le (by rw [be_length]; omega), val_be]
  omega
theorem root_right (a b c : Int) : root_Right.f a b c = some (decide ((0 ≤ a ∧ a ≤ 2147483647) ∧ (0 ≤ b ∧ b ≤ 2147483647) ∧ (0 ≤ c ∧ c ≤ 2147483647))) := by
  have hf : ∀ x : Int, root_fits.f x = some (decide (0 ≤ x ∧ x ≤ 2147483647)) := fun x => by
    unfold root_fits.f
    by_cases c : x ≥ 0
    · rw [if_pos c]
      congr 1
      rw [decide_eq_decide]
      omega
    · rw [if_neg c]
      congr 1
      symm
      rw [decide_eq_false_iff_not]
      omega
  unfold root_Right.f
  rw [hf, hf, hf]
  by_cases h1 : 0 ≤ a ∧ a ≤ 2147483647 <;> by_cases h2 : 0 ≤ b ∧ b ≤ 2147483647 <;> simp [h1, h2]
theorem root_text (g a m : Nat) (hg : g ≤ 2147483647) (ha : a ≤ 2147483647) (hm : m ≤ 2147483647) (k : Nat) (hk : 30 ≤ k) (S : List ByteArray) (W : List Wr) :
    root_Write.l0 k (⟨#[]⟩ : ByteArray) [(g : Int), (a : Int), (m : Int)] (([(g : Int), (a : Int), (m : Int)] : List Int).length : Int) 0 S W (g : Int) (a : Int) (m : Int) = (block_Write.f (k - 4) S W (Int.tmod (g : Int) 2) (B (rootT g a m))).bind fun bt167 => (some (bt167.1, bt167.2.1, bt167.2.2)) := by
  obtain ⟨k, rfl⟩ : ∃ j, k = j + 4 := ⟨k - 4, by omega⟩
  have n : ∀ (x j : Nat), x ≤ 2147483647 → 14 ≤ j → pack_Num.f j (x : Int) 4 = some (B (be x 4), 0) := fun x j hx hj => (num_eq x (by omega) 4 (by decide) j (by omega)).trans (congrArg some (numR_in x 4 (by omega) (by omega) (by omega)))
  have e1 : wrap64 (0 + 1) = 1 := wrap64_in (by decide) (by decide)
  have e2 : wrap64 (1 + 1) = 2 := wrap64_in (by decide) (by decide)
  have e3 : wrap64 (2 + 1) = 3 := wrap64_in (by decide) (by decide)
  rw [root_Write.l0, if_pos (by simp), if_pos (by omega), if_pos (by simp), show rd [(g : Int), (a : Int), (m : Int)] 0 = (g : Int) from rfl, u64_in (by omega) (by omega), n g _ hg (by omega), Option.bind_some, B_nil]
  simp only
  rw [if_pos (by rw [B_size, B_size, be_length]; decide), B_append, List.nil_append, e1,
    root_Write.l0, if_pos (by simp), if_pos (by omega), if_pos (by simp), show rd [(g : Int), (a : Int), (m : Int)] 1 = (a : Int) from rfl, u64_in (by omega) (by omega), n a _ ha (by omega), Option.bind_some]
  simp only
  rw [if_pos (by rw [B_size, B_size, be_length, be_length]; decide), B_append, e2,
    root_Write.l0, if_pos (by simp), if_pos (by omega), if_pos (by simp), show rd [(g : Int), (a : Int), (m : Int)] 2 = (m : Int) from rfl, u64_in (by omega) (by omega), n m _ hm (by omega), Option.bind_some]
  simp only
  rw [if_pos (by rw [B_size, B_size, List.length_append, be_length, be_length, be_length]; decide), B_append, e3, root_Write.l0, if_neg (by simp)]
  rfl
theorem tmod2 (g : Nat) : Int.tmod (g : Int) 2 = ((g % 2 : Nat) : Int) := by
  rw [Int.tmod_eq_emod_of_nonneg (by omega)]
  omega
theorem Img.rwrite {n : Nat} {S : List ByteArray} {W : List Wr} {I : List (List UInt8)} (h : Img n S W I) (hn : n ≤ 100000) (g a m : Nat) (hg : g ≤ 2147483647) (ha : a ≤ 2147483647) (hm : m ≤ 2147483647) (hS : g % 2 + 1 ≤ S.length) (k : Nat) (hk : 30 ≤ k) :
    root_Write.f k S W (g : Int) (a : Int) (m : Int) = some (S, W ++ putW ((g % 2 : Nat) : Int) ((secB (rootT g a m)).map B), 0) ∧ Img (n + 1) S (W ++ putW ((g % 2 : Nat) : Int) ((secB (rootT g a m)).map B)) (ovr (g % 2) (secB (rootT g a m)) I) := by
  have hw := h.write hn (g % 2) (rootT g a m) (by rw [rootT_length]; omega) (by rw [needB_root]; exact hS) (k - 4) (by omega)
  rw [needB_root] at hw
  refine ⟨?_, hw.2⟩
  unfold root_Write.f
  rw [root_right, Option.bind_some, if_pos (decide_eq_true ⟨⟨by omega, by omega⟩, ⟨by omega, by omega⟩, by omega, by omega⟩), Option.bind_some, root_text g a m hg ha hm k hk, tmod2, hw.1]
  rfl
theorem rwrite_bad {S : List ByteArray} {W : List Wr} (hf : disk_fit S W = true) (g a m : Int) (h : ¬ (disk_right S W = true ∧ (0 ≤ g ∧ g ≤ 2147483647) ∧ (0 ≤ a ∧ a ≤ 2147483647) ∧ (0 ≤ m ∧ m ≤ 2147483647) ∧ g % 2 + 1 ≤ (S.length : Nat))) (k : Nat) (hk : 30 ≤ k) : root_Write.f k S W g a m = some (S, W, 1) := by
  unfold root_Write.f
  rw [root_right, Option.bind_some]
  by_cases c : (0 ≤ g ∧ g ≤ 2147483647) ∧ (0 ≤ a ∧ a ≤ 2147483647) ∧ (0 ≤ m ∧ m ≤ 2147483647)
  · rw [if_pos (decide_eq_true c), Option.bind_some]
    obtain ⟨⟨g0, g1⟩, ⟨a0, a1⟩, m0, m1⟩ := c
    obtain ⟨g, rfl⟩ := Int.eq_ofNat_of_zero_le g0
    obtain ⟨a, rfl⟩ := Int.eq_ofNat_of_zero_le a0
    obtain ⟨m, rfl⟩ := Int.eq_ofNat_of_zero_le m0
    rw [root_text g a m (by omega) (by omega) (by omega) k hk, tmod2, write_bad hf _ _ (by rw [rootT_length]; omega) (fun hh => h ⟨hh.1, ⟨by omega, by omega⟩, ⟨by omega, by omega⟩, ⟨by omega, by omega⟩, by have := hh.2.2.2; rw [needB_root] at this; omega⟩) (k - 4) (by omega)]
    rfl
  · rw [if_neg (by rw [decide_eq_true_eq]; exact c)]
/-- what a sector tells of a root -/
def rootS (s : List UInt8) (a : Int) : Int × Int × Int × Bool := rootR (readR s 1).1 (readR s 1).2 a
theorem readR_size (s : List UInt8) (n : Int) (h : s.length ≤ 9000000000000) : (readR s n).1.size ≤ 9000000000000 := by
  unfold readR
  split
  · split
    · rw [B_size, List.length_take, List.length_drop]; omega
    · rw [B_size]; simp
  · rw [B_size]; simp
theorem flatten_one (F : List (List UInt8)) (i : Nat) (h : i < F.length) : ((F.take (i + 1)).drop i).flatten = F[i] := by
  rw [List.take_succ_eq_append_getElem h, List.drop_append_of_le_length (by rw [List.length_take]; omega), List.drop_of_length_le (by rw [List.length_take]; omega), List.nil_append, List.flatten_singleton]
/-- what is read of a place: zeros, or what its sector tells -/
theorem Img.rread {n : Nat} {S : List ByteArray} {W : List Wr} {I : List (List UInt8)} (h : Img n S W I) (hn : n ≤ 100000) (a : Nat) (ha : a < I.length) : root_Read.f S W (a : Int) = some (rootS I[a] (a : Int)) := by
  have hl := h.len
  have h5 := h.le
  have hb := h.bread hn a 1 (by omega) 100 (by omega)
  rw [flatten_one I a ha] at hb
  have h32 := h.all32 I[a] (List.getElem_mem ha)
  unfold root_Read.f
  rw [show ((1 : Nat) : Int) = 1 from rfl] at hb
  rw [hb, Option.bind_some, if_pos (readR_size _ _ (by omega))]
  rfl
theorem rread_bad {S : List ByteArray} {W : List Wr} (hf : disk_fit S W = true) (a : Int) (h : ¬ (disk_right S W = true ∧ 0 ≤ a ∧ a < 2 ∧ a + 1 ≤ (S.length : Nat))) : root_Read.f S W a = some (0, 0, 0, false) := by
  have hz : ∀ (s : ByteArray) (e : Int), ¬ (e = 0 ∧ 0 ≤ a ∧ a < 2) → rootR s e a = (0, 0, 0, false) := fun s e hc => if_neg (fun hh => hc ⟨hh.1, hh.2.1, hh.2.2.1⟩)
  unfold root_Read.f
  by_cases c : (disk_right S W && thereB S.length a 1) = true
  · have hr : disk_right S W = true := by rw [Bool.and_eq_true] at c; exact c.1
    have ht : thereB S.length a 1 = true := by rw [Bool.and_eq_true] at c; exact c.2
    rw [there_iff] at ht
    obtain ⟨n, rfl⟩ := Int.eq_ofNat_of_zero_le ht.2.2.1
    have hI := Img.of hr
    have hW : W.length ≤ 100000 ∨ ¬ W.length ≤ 100000 := Decidable.em _
    have hrd := Read_ok hf hr (a := (n : Int)) (n := 1) (by rw [there_iff]; exact ht)
    have hsz : (datas (((applyW (fun _ => true) 0 W S).take ((n : Int) + 1).toNat).drop (n : Int).toNat)).length = 32 := by
      have hS := (right_iff S W).1 hr
      have hall := applyW_32 (fun _ => true) W 0 S (fun x hx => (hS.2.2.2 x hx).1) hS.2.2.1
      rw [datas_length _ (fun s hs => hall s (List.mem_of_mem_take (List.mem_of_mem_drop hs))), List.length_drop, List.length_take, applyW_length]
      omega
    have hrb := readB_eq _ 1 (by rw [hsz]; omega) (by rw [hsz]; rfl) 100 (by omega) S W (n : Int) hrd
    rw [hrb, Option.bind_some, if_pos (readR_size _ _ (by rw [hsz]; omega)), hz _ _ (fun hh => h ⟨hr, hh.2.1, hh.2.2, by omega⟩)]
  · have hrd := Read_bad hf (Bool.eq_false_iff.2 c)
    unfold block_Read.f
    rw [hrd, Option.bind_some]
    simp only
    rw [if_neg (by decide), Option.bind_some, if_pos (by show (0 : Nat) ≤ _; omega), hz _ _ (fun hh => absurd hh.1 (by decide))]
theorem rootS_zero (a : Int) : rootS (List.replicate 32 0) a = (0, 0, 0, false) := by
  have h : readR (List.replicate 32 0) 1 = (B [], 4) := by kernel_rfl
  unfold rootS
  rw [h]
  exact if_neg (fun hh => absurd hh.1 (by decide))
theorem rootS_back (g a m : Nat) (hg : g ≤ 2147483647) (ha : a ≤ 2147483647) (hm : m ≤ 2147483647) : rootS (secB (rootT g a m)).flatten ((g % 2 : Nat) : Int) = ((g : Int), (a : Int), (m : Int), true) := by
  have h := readR_back (rootT g a m) (by rw [rootT_length]; omega)
  rw [needB_root] at h
  unfold rootS
  rw [show ((1 : Nat) : Int) = 1 from rfl] at h
  rw [h, rootR, B_data]
  have hb : rootB (rootT g a m) ((g % 2 : Nat) : Int) = true := by
    unfold rootB
    rw [rootN0 g a m (by omega), rootN1 g a m (by omega), rootN2 g a m (by omega), rootT_length]
    simp [hg, ha, hm]
  rw [if_pos ⟨rfl, by omega, by omega, hb⟩, rootN0 g a m (by omega), rootN1 g a m (by omega), rootN2 g a m (by omega)]
theorem secB_one (g a m : Nat) : secB (rootT g a m) = [(secB (rootT g a m)).flatten] := by
  have h := secB_length (rootT g a m)
  rw [needB_root] at h
  match hx : secB (rootT g a m), h with
  | [x], _ => simp
/-- the newer one -/
def bestR (x y : Int × Int × Int × Bool) : Int × Int × Int × Int :=
  if x.2.2.2 = true ∧ (y.2.2.2 = false ∨ x.1 > y.1) then (x.1, x.2.1, x.2.2.1, 0) else if y.2.2.2 = true then (y.1, y.2.1, y.2.2.1, 0) else (0, 0, 0, 3)
theorem best_eq (S : List ByteArray) (W : List Wr) (x y : Int × Int × Int × Bool) (hx : root_Read.f S W 0 = some x) (hy : root_Read.f S W 1 = some y) (k : Nat) (hk : 1 ≤ k) : root_Best.f k S W = some (bestR x y) := by
  obtain ⟨k, rfl⟩ : ∃ j, k = j + 1 := ⟨k - 1, by omega⟩
  obtain ⟨x0, x1, x2, x3⟩ := x
  obtain ⟨y0, y1, y2, y3⟩ := y
  unfold root_Best.f bestR
  rw [hx, Option.bind_some, hy, Option.bind_some]
  cases x3 <;> cases y3 <;> simp [root_Best.j0]
  all_goals (split <;> rfl)
end Go.Proofs.Ythcohkgpbjcliaa.Pl
