/- More of what the functions of the disk come to, in plain words: what is put, flushed, and read again. -/
import Derived.Test.YthidkdlmpkeogaaPlDisk
import Derived.Test.YthidkdlmpkeogaaPlSame04
namespace Go.Proofs.Ythidkdlmpkeogaa.Pl
open Go.RowKit Go.Proofs.Ythidkdlmpkeogaa.F Go.Proofs.YthidkdlmpkeogaaW.PrintWords Go.Proofs.YthidkdlmpkeogaaW.PrintLast Go.Proofs.YthidkdlmpkeogaaW.PrintMore
set_option linter.unusedVariables false
set_option linter.unusedSimpArgs false
abbrev all : Nat → Bool := fun _ => true
theorem mem_putW : ∀ (T : List ByteArray) (a : Int) (x : Wr), x ∈ putW a T → x.f1 ∈ T ∧ a ≤ x.f0 ∧ x.f0 < a + T.length
  | [], a, x, h => by cases h
  | t :: T, a, x, h => by
    rw [putW, List.mem_cons] at h
    rcases h with rfl | h
    · exact ⟨List.mem_cons_self, Int.le_refl _, by simp only [List.length_cons]; omega⟩
    · obtain ⟨h1, h2, h3⟩ := mem_putW T (a + 1) x h
      exact ⟨List.mem_cons_of_mem _ h1, by omega, by simp only [List.length_cons]; omega⟩
theorem put_right {S : List ByteArray} {W : List Wr} {a : Int} {T : List ByteArray} (h : disk_right S W = true) (ht : thereB S.length a (T.length : Int) = true) (hT : ∀ t ∈ T, t.size = 32) : disk_right S (W ++ putW a T) = true := by
  rw [right_iff] at h ⊢
  rw [there_iff] at ht
  refine ⟨h.1, h.2.1, h.2.2.1, fun x hx => ?_⟩
  rcases List.mem_append.1 hx with hx | hx
  · exact h.2.2.2 x hx
  · obtain ⟨h1, h2, h3⟩ := mem_putW _ _ _ hx
    exact ⟨hT _ h1, by omega, by omega⟩
theorem last_right {S : List ByteArray} {W : List Wr} (h : disk_right S W = true) (kept : Nat → Bool) : disk_right (applyW kept 0 W S) [] = true := by
  rw [right_iff] at h ⊢
  refine ⟨by rw [applyW_length]; exact h.1, by rw [applyW_length]; exact h.2.1, applyW_32 kept W 0 S (fun x hx => (h.2.2.2 x hx).1) h.2.2.1, fun x hx => by cases hx⟩
theorem applyW_append (kept : Nat → Bool) : ∀ (W V : List Wr) (i : Nat) (S : List ByteArray), applyW kept i (W ++ V) S = applyW kept (i + W.length) V (applyW kept i W S)
  | [], V, i, S => by simp [applyW]
  | x :: W, V, i, S => by
    rw [List.cons_append, applyW, applyW_append kept W, applyW, List.length_cons]
    congr 1
    omega
theorem get_set (S : List ByteArray) (k : Nat) (x : ByteArray) (i : Nat) : (S.set k x).getD i ByteArray.empty = if k = i ∧ i < S.length then x else S.getD i ByteArray.empty := by
  rw [List.getD_eq_getElem?_getD, List.getD_eq_getElem?_getD, List.getElem?_set]
  by_cases h1 : k = i
  · by_cases h2 : i < S.length
    · subst h1
      rw [if_pos rfl, if_pos h2, if_pos ⟨rfl, h2⟩]
      rfl
    · subst h1
      rw [if_pos rfl, if_neg h2, if_neg (by omega), List.getElem?_eq_none (by omega)]
  · rw [if_neg h1, if_neg (by omega)]
theorem put_at : ∀ (T : List ByteArray) (a : Nat) (n : Nat) (S : List ByteArray) (i : Nat), a + T.length ≤ S.length →
    (applyW all n (putW (a : Int) T) S).getD i ByteArray.empty = if a ≤ i ∧ i < a + T.length then T.getD (i - a) ByteArray.empty else S.getD i ByteArray.empty
  | [], a, n, S, i, h => by rw [putW, applyW, if_neg (by simp only [List.length_nil]; omega)]
  | t :: T, a, n, S, i, h => by
    have hl : a + T.length + 1 ≤ S.length := by simp only [List.length_cons] at h; omega
    rw [putW, applyW, if_pos rfl, show ((a : Int) + 1) = ((a + 1 : Nat) : Int) by omega, put_at T (a + 1) _ _ i (by rw [List.length_set]; omega), get_set]
    simp only [List.length_cons, Int.toNat_natCast]
    by_cases c : i = a
    · subst c
      rw [if_neg (by omega), if_pos ⟨rfl, by omega⟩, if_pos ⟨by omega, by omega⟩, Nat.sub_self]
      rfl
    · by_cases c2 : a + 1 ≤ i ∧ i < a + 1 + T.length
      · rw [if_pos c2, if_pos ⟨by omega, by omega⟩, show i - a = (i - (a + 1)) + 1 by omega]
        rfl
      · rw [if_neg c2, if_neg (by omega), if_neg (by omega)]
theorem datas_one (s : ByteArray) : B (datas [s]) = s := by
  rw [datas, List.map_singleton, List.flatten_singleton]
  exact (B_of s).symm
theorem take_one (F : List ByteArray) (i : Nat) (h : i < F.length) : (F.take (i + 1)).drop i = [F.getD i ByteArray.empty] := by
  rw [List.take_succ_eq_append_getElem h, List.drop_append_of_le_length (by rw [List.length_take]; omega), List.drop_of_length_le (by rw [List.length_take]; omega), List.getD_eq_getElem?_getD, List.getElem?_eq_getElem h]
  rfl
theorem read_one {S : List ByteArray} {W : List Wr} (hf : disk_fit S W = true) (h : disk_right S W = true) (i : Nat) (hi : i < S.length) : disk_Read.f S W (i : Int) 1 = some ((applyW all 0 W S).getD i ByteArray.empty, 0) := by
  rw [Read_ok hf h (by rw [there_iff]; omega), show ((i : Int) + 1).toNat = i + 1 by omega, Int.toNat_natCast, take_one _ _ (by rw [applyW_length]; exact hi), datas_one]
theorem shorts_false {T : List ByteArray} (h : (T.any fun s => s.size != 32) = false) : ∀ t ∈ T, t.size = 32 := by
  rw [List.any_eq_false] at h
  intro t ht
  have := h t ht
  simpa using this
theorem reads_ok {S : List ByteArray} {W : List Wr} {a : Int} {T : List ByteArray} (hS : S.length ≤ 1000) (hW : W.length ≤ 1000) (hTl : T.length ≤ 1000) (hp : (disk_right S W && thereB S.length a (T.length : Int) && !(T.any fun s => s.size != 32)) = true) :
    ∃ (P : List Wr) (F : List ByteArray) (E : List Wr), disk_Put.f S W a T = some (S, P, 0) ∧ disk_Flush.f S P = some (F, E) ∧ E.length = 0 ∧ P.length = W.length + T.length ∧ disk_fit S P = true ∧ disk_fit F E = true ∧ disk_fit S W = true ∧ F.length = S.length ∧
      ∀ i : Int, 0 ≤ i → i < S.length → ∃ x y, disk_Read.f S P i 1 = some (x, 0) ∧ disk_Read.f F E i 1 = some (x, 0) ∧ disk_Read.f S W i 1 = some (y, 0) ∧ (a ≤ i → i < a + T.length → x = rdOf ByteArray.empty T (i - a)) ∧ (¬ (a ≤ i ∧ i < a + T.length) → x = y) := by
  simp only [Bool.and_eq_true, Bool.not_eq_true'] at hp
  obtain ⟨⟨h, ht⟩, hT⟩ := hp
  have hT := shorts_false hT
  have hl : (putW a T).length = T.length := putW_length T a
  have hf : disk_fit S W = true := fit_of (by omega) (by omega)
  have hfp : disk_fit S (W ++ putW a T) = true := fit_of (by omega) (by rw [List.length_append]; omega)
  have hr := put_right h ht hT
  have hfr := last_right hr all
  have hff : disk_fit (applyW all 0 (W ++ putW a T) S) [] = true := fit_of (by rw [applyW_length]; omega) (by simp)
  rw [there_iff] at ht
  refine ⟨W ++ putW a T, applyW all 0 (W ++ putW a T) S, [], Put_ok hf h (by rw [there_iff]; exact ht) hT, by rw [Flush_eq hfp, lasting_right hr], rfl, by rw [List.length_append, hl], hfp, hff, hf, applyW_length _ _ _ _, fun i h0 h1 => ?_⟩
  obtain ⟨n, rfl⟩ := Int.eq_ofNat_of_zero_le h0
  obtain ⟨b, rfl⟩ := Int.eq_ofNat_of_zero_le ht.2.2.1
  have hn : n < S.length := by omega
  have key := put_at T b (0 + W.length) (applyW all 0 W S) n (by rw [applyW_length]; omega)
  refine ⟨_, _, read_one hfp hr n hn, ?_, read_one hf h n hn, ?_, ?_⟩
  · rw [read_one hff hfr n (by rw [applyW_length]; exact hn)]
    rfl
  · intro c1 c2
    rw [applyW_append, key, if_pos ⟨by omega, by omega⟩, show ((n : Int) - (b : Int)) = ((n - b : Nat) : Int) by omega]
    rfl
  · intro c
    rw [applyW_append, key, if_neg (by omega)]
theorem applyW_at (kept : Nat → Bool) : ∀ (W : List Wr) (n : Nat) (S : List ByteArray) (i : Nat), (∀ x ∈ W, 0 ≤ x.f0) →
    (applyW kept n W S).getD i ByteArray.empty = S.getD i ByteArray.empty ∨ ∃ x ∈ W, x.f0 = (i : Int) ∧ x.f1 = (applyW kept n W S).getD i ByteArray.empty
  | [], n, S, i, _ => .inl rfl
  | x :: W, n, S, i, h => by
    rw [applyW]
    rcases applyW_at kept W (n + 1) (if kept n = true then S.set x.f0.toNat x.f1 else S) i (fun y hy => h y (List.mem_cons_of_mem _ hy)) with h1 | ⟨y, hy, h1, h2⟩
    · rw [h1]
      by_cases c : kept n = true
      · rw [if_pos c, get_set]
        by_cases c2 : x.f0.toNat = i ∧ i < S.length
        · rw [if_pos c2]
          exact .inr ⟨x, List.mem_cons_self, by have := h x List.mem_cons_self; omega, rfl⟩
        · rw [if_neg c2]
          exact .inl rfl
      · rw [if_neg c]
        exact .inl rfl
    · exact .inr ⟨y, List.mem_cons_of_mem _ hy, h1, h2⟩
theorem applyW_congr (k1 k2 : Nat → Bool) : ∀ (W : List Wr) (n : Nat) (S : List ByteArray), (∀ i, n ≤ i → i < n + W.length → k1 i = k2 i) → applyW k1 n W S = applyW k2 n W S
  | [], _, _, _ => rfl
  | x :: W, n, S, h => by
    rw [applyW, applyW, h n (Nat.le_refl _) (by simp only [List.length_cons]; omega)]
    exact applyW_congr k1 k2 W (n + 1) _ (fun i h1 h2 => h i (by omega) (by simp only [List.length_cons]; omega))
theorem applyW_none : ∀ (W : List Wr) (n : Nat) (S : List ByteArray), applyW (fun i => ([] : List Bool).getD i false) n W S = S
  | [], _, _ => rfl
  | x :: W, n, S => by rw [applyW, if_neg (by simp), applyW_none W]
def hitW (i : Int) (s : ByteArray) (W : List Wr) : Bool := W.any fun x => x.f0 == i && x.f1.toList == s.toList
theorem crashes_ok {S : List ByteArray} {W : List Wr} (hS : S.length ≤ 1000) (hW : W.length ≤ 1000) (h : disk_right S W = true) (l : List Bool) :
    ∃ (C F : List ByteArray) (E : List Wr), E = [] ∧ disk_Crash.f S W l = some (C, E) ∧ disk_Right.f C E = some true ∧ C.length = S.length ∧ disk_Flush.f S W = some (F, E) ∧ disk_Crash.f S W (List.replicate W.length true) = some (F, E) ∧ disk_Crash.f S W [] = some (S, E) ∧ disk_Crash.f F E l = some (F, E) ∧
      ∀ i : Int, 0 ≤ i → i < S.length → ((rdOf ByteArray.empty C i).toList == (rdOf ByteArray.empty S i).toList || hitW i (rdOf ByteArray.empty C i) W) = true := by
  have hf : disk_fit S W = true := fit_of (by omega) (by omega)
  have hff : disk_fit (applyW all 0 W S) [] = true := fit_of (by rw [applyW_length]; omega) (by simp)
  refine ⟨applyW (fun i => l.getD i false) 0 W S, applyW all 0 W S, [], rfl, by rw [Crash_eq hf, lasting_right h], by rw [Right_eq, last_right h], applyW_length _ _ _ _, by rw [Flush_eq hf, lasting_right h], ?_, ?_, ?_, fun i h0 h1 => ?_⟩
  · rw [Crash_eq hf, lasting_right h, applyW_congr _ all W 0 S (fun i _ hi => by rw [List.getD_eq_getElem?_getD, List.getElem?_replicate, if_pos (by omega)]; rfl)]
  · rw [Crash_eq hf, lasting_right h, applyW_none]
  · rw [Crash_eq hff, lasting_right (last_right h all)]
    rfl
  · obtain ⟨n, rfl⟩ := Int.eq_ofNat_of_zero_le h0
    rw [right_iff] at h
    have key := applyW_at (fun i => l.getD i false) W 0 S n (fun x hx => (h.2.2.2 x hx).2.1)
    rcases key with k | ⟨x, hx, h1, h2⟩
    · rw [show rdOf ByteArray.empty (applyW (fun i => l.getD i false) 0 W S) (n : Int) = rdOf ByteArray.empty S (n : Int) from k]
      simp
    · rw [Bool.or_eq_true]
      refine .inr ?_
      unfold hitW
      rw [List.any_eq_true]
      refine ⟨x, hx, ?_⟩
      rw [h1, show rdOf ByteArray.empty (applyW (fun i => l.getD i false) 0 W S) (n : Int) = x.f1 from h2.symm]
      simp
theorem hit_snoc (i : Int) (s : ByteArray) (W : List Wr) (j : Nat) (h : j < W.length) : hitW i s (W.take (j + 1)) = (hitW i s (W.take j) || (W[j].f0 == i && W[j].f1.toList == s.toList)) := by
  unfold hitW
  rw [List.take_succ_eq_append_getElem h, List.any_append]
  simp
end Go.Proofs.Ythidkdlmpkeogaa.Pl
