/- The image of a disk: what its sectors would be, were it flushed. -/
import Derived.Test.YthcohkgpbjcliaaPlDisk
import Derived.Test.YthcohkgpbjcliaaJourSpec
namespace Go.Proofs.Ythcohkgpbjcliaa.Pl
open Go.RowKit Go.Proofs.Ythcohkgpbjcliaa.F Go.Proofs.YthcohkgpbjcliaaW.PrintWords Go.Proofs.YthcohkgpbjcliaaW.PrintLast Go.Proofs.YthcohkgpbjcliaaW.PrintMore
set_option linter.unusedVariables false
set_option linter.unusedSimpArgs false
abbrev alw : Nat → Bool := fun _ => true
def ovr {α : Type} (a : Nat) (T S : List α) : List α := S.take a ++ T ++ S.drop (a + T.length)
theorem ovr_length {α : Type} (a : Nat) (T S : List α) (h : a + T.length ≤ S.length) : (ovr a T S).length = S.length := by
  simp only [ovr, List.length_append, List.length_take, List.length_drop]
  omega
theorem ovr_map {α β : Type} (f : α → β) (a : Nat) (T S : List α) : (ovr a T S).map f = ovr a (T.map f) (S.map f) := by
  simp only [ovr, List.map_append, List.map_take, List.map_drop, List.length_map]
theorem put_ovr : ∀ (T : List ByteArray) (a n : Nat) (S : List ByteArray), a + T.length ≤ S.length → applyW alw n (putW (a : Int) T) S = ovr a T S
  | [], a, n, S, h => by rw [putW, applyW, ovr, List.append_nil, List.length_nil, Nat.add_zero, List.take_append_drop]
  | t :: T, a, n, S, h => by
    rw [List.length_cons] at h
    have hs : S.set a t = S.take a ++ t :: S.drop (a + 1) := by rw [List.set_eq_take_append_cons_drop, if_pos (by omega)]
    have hl : (S.take a).length = a := by rw [List.length_take]; omega
    rw [putW, applyW, if_pos rfl, show ((a : Int) + 1) = ((a + 1 : Nat) : Int) by omega, Int.toNat_natCast, put_ovr T (a + 1) _ _ (by rw [List.length_set]; omega), hs, ovr, ovr, List.length_cons]
    have e1 : (S.take a ++ t :: S.drop (a + 1)).take (a + 1) = S.take a ++ [t] := by
      rw [List.take_append, hl, List.take_of_length_le (by omega), show a + 1 - a = 1 by omega]
      rfl
    have e2 : (S.take a ++ t :: S.drop (a + 1)).drop (a + 1 + T.length) = S.drop (a + (T.length + 1)) := by
      rw [List.drop_append, hl, List.drop_of_length_le (by omega), show a + 1 + T.length - a = T.length + 1 by omega, List.nil_append, List.drop_succ_cons, List.drop_drop]
      congr 1
      omega
    rw [e1, e2, List.append_assoc, List.append_assoc, List.append_assoc]
    rfl
theorem applyW_app (kept : Nat → Bool) : ∀ (W V : List Wr) (i : Nat) (S : List ByteArray), applyW kept i (W ++ V) S = applyW kept (i + W.length) V (applyW kept i W S)
  | [], V, i, S => rfl
  | x :: W, V, i, S => by
    rw [List.cons_append, applyW, applyW_app kept W, applyW, List.length_cons, show i + 1 + W.length = i + (W.length + 1) by omega]
theorem mem_put : ∀ (T : List ByteArray) (a : Int) (x : Wr), x ∈ putW a T → x.f1 ∈ T ∧ a ≤ x.f0 ∧ x.f0 < a + T.length
  | [], a, x, h => by cases h
  | t :: T, a, x, h => by
    rw [putW, List.mem_cons] at h
    rcases h with rfl | h
    · exact ⟨List.mem_cons_self, Int.le_refl _, by simp only [List.length_cons]; omega⟩
    · obtain ⟨h1, h2, h3⟩ := mem_put T (a + 1) x h
      exact ⟨List.mem_cons_of_mem _ h1, by omega, by simp only [List.length_cons]; omega⟩
/-- the disk's image is I; not more than n writes wait -/
structure Img (n : Nat) (S : List ByteArray) (W : List Wr) (I : List (List UInt8)) : Prop where
  few : W.length ≤ n
  right : disk_right S W = true
  img : applyW alw 0 W S = I.map B
theorem Img.len {n : Nat} {S : List ByteArray} {W : List Wr} {I : List (List UInt8)} (h : Img n S W I) : I.length = S.length := by
  rw [← applyW_length alw W 0 S, h.img, List.length_map]
theorem Img.le {n : Nat} {S : List ByteArray} {W : List Wr} {I : List (List UInt8)} (h : Img n S W I) : S.length ≤ 512 := ((right_iff S W).1 h.right).2.1
theorem Img.fit {n : Nat} {S : List ByteArray} {W : List Wr} {I : List (List UInt8)} (h : Img n S W I) (hn : n ≤ 100000) : disk_fit S W = true := fit_of (by have := h.le; omega) (by have := h.few; omega)
theorem Img.all32 {n : Nat} {S : List ByteArray} {W : List Wr} {I : List (List UInt8)} (h : Img n S W I) : ∀ s ∈ I, s.length = 32 := by
  obtain ⟨_, _, h3, h4⟩ := (right_iff S W).1 h.right
  intro s hs
  have := applyW_32 alw W 0 S (fun x hx => (h4 x hx).1) h3 (B s) (by rw [h.img]; exact List.mem_map_of_mem hs)
  rw [B_size] at this
  exact this
theorem Img.new : Img 0 (List.replicate 130 zero32) [] (List.replicate 130 (List.replicate 32 0)) := ⟨Nat.le_refl _, new_right (by omega) (by omega), by rw [List.map_replicate]; rfl⟩
theorem datas_B (I : List (List UInt8)) : datas (I.map B) = I.flatten := by
  rw [datas, List.map_map]
  congr 1
  conv => rhs; rw [← List.map_id I]
  exact List.map_congr_left (fun x _ => B_data x)
theorem Img.read {n : Nat} {S : List ByteArray} {W : List Wr} {I : List (List UInt8)} (h : Img n S W I) (hn : n ≤ 100000) (a m : Nat) (ha : a + m ≤ S.length) : disk_Read.f S W (a : Int) (m : Int) = some (B ((I.take (a + m)).drop a).flatten, 0) := by
  rw [Read_ok (h.fit hn) h.right ((there_iff _ _ _).2 ⟨by omega, by omega, by omega, by omega⟩), h.img, Int.toNat_natCast, show ((a : Int) + (m : Int)).toNat = a + m by omega, ← List.map_take, ← List.map_drop, datas_B]
theorem Img.put {n : Nat} {S : List ByteArray} {W : List Wr} {I : List (List UInt8)} (h : Img n S W I) (hn : n ≤ 100000) (a : Nat) (T : List (List UInt8)) (ha : a + T.length ≤ S.length) (hT : ∀ t ∈ T, t.length = 32) :
    disk_Put.f S W (a : Int) (T.map B) = some (S, W ++ putW (a : Int) (T.map B), 0) ∧ Img (n + T.length) S (W ++ putW (a : Int) (T.map B)) (ovr a T I) := by
  have hT2 : ∀ t ∈ T.map B, t.size = 32 := fun t ht => by
    obtain ⟨x, hx, rfl⟩ := List.mem_map.1 ht
    rw [B_size]
    exact hT x hx
  refine ⟨Put_ok (h.fit hn) h.right ((there_iff _ _ _).2 ⟨by omega, by rw [List.length_map]; omega, by omega, by rw [List.length_map]; omega⟩) hT2, ?_, ?_, ?_⟩
  · rw [List.length_append, putW_length, List.length_map]
    have := h.few
    omega
  · obtain ⟨h1, h2, h3, h4⟩ := (right_iff S W).1 h.right
    refine (right_iff S _).2 ⟨h1, h2, h3, fun x hx => ?_⟩
    rcases List.mem_append.1 hx with hx | hx
    · exact h4 x hx
    · obtain ⟨k1, k2, k3⟩ := mem_put _ _ _ hx
      rw [List.length_map] at k3
      exact ⟨hT2 _ k1, by omega, by omega⟩
  · rw [applyW_app, h.img, put_ovr _ _ _ _ (by rw [List.length_map, List.length_map, h.len]; omega), ← ovr_map]
theorem Img.flush {n : Nat} {S : List ByteArray} {W : List Wr} {I : List (List UInt8)} (h : Img n S W I) (hn : n ≤ 100000) : disk_Flush.f S W = some (I.map B, []) ∧ Img 0 (I.map B) [] I := by
  refine ⟨by rw [Flush_eq (h.fit hn), lasting_right h.right, ← h.img], Nat.le_refl _, (right_iff _ _).2 ⟨?_, ?_, fun s hs => ?_, fun x hx => by cases hx⟩, rfl⟩
  · rw [List.length_map, h.len]
    exact ((right_iff S W).1 h.right).1
  · rw [List.length_map, h.len]
    exact h.le
  · obtain ⟨x, hx, rfl⟩ := List.mem_map.1 hs
    rw [B_size]
    exact h.all32 x hx
end Go.Proofs.Ythcohkgpbjcliaa.Pl
