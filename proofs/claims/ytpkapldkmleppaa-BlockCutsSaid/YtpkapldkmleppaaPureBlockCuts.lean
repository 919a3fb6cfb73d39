/- What is cut is sectors, which are together the text, and bytes 0, fewer than a sector has. -/
import Derived.Test.YtpkapldkmleppaaFlaw06BlockCuts
import Derived.Test.YtpkapldkmleppaaPlBlock
import Derived.Test.YtpkapldkmleppaaPlAwake06
namespace Go.Proofs.Ytpkapldkmleppaa.PlBlockCuts
open Go.RowKit Go.Proofs.Ytpkapldkmleppaa.F Go.Proofs.YtpkapldkmleppaaW.PrintWords Go.Proofs.YtpkapldkmleppaaW.PrintLast Go.Proofs.YtpkapldkmleppaaW.PrintMore Go.Proofs.Ytpkapldkmleppaa.Pl
set_option linter.unusedVariables false
set_option linter.unusedSimpArgs false
theorem tail (t : List UInt8) (n : Nat) (ht : t.length ≤ 2000) (hn : n < 32) : ∀ (d i k : Nat), i + d = t.length + n → t.length ≤ i → 200 + d ≤ k →
    weirkeeperlaw06_BlockCuts.l1 k (B t) (B (t ++ List.replicate n 0)) (i : Int) = some true
  | 0, i, k, hi, hl, hk => by
    obtain ⟨k, rfl⟩ : ∃ j, k = j + 1 := ⟨k - 1, by omega⟩
    have hz : (B (t ++ List.replicate n 0)).size = t.length + n := by rw [B_size, List.length_append, List.length_replicate]
    rw [weirkeeperlaw06_BlockCuts.l1, hz, B_size, if_neg (by omega), if_pos (by omega), wrap64_in (by omega) (by omega), if_pos (by omega), if_pos (by omega), if_pos (by omega), Int.toNat_natCast, B_extract, List.drop_zero, List.take_left, if_pos rfl, awake6At k (by omega)]
    rfl
  | d + 1, i, k, hi, hl, hk => by
    obtain ⟨k, rfl⟩ : ∃ j, k = j + 1 := ⟨k - 1, by omega⟩
    have hz : (B (t ++ List.replicate n 0)).size = t.length + n := by rw [B_size, List.length_append, List.length_replicate]
    have hlt : i < (t ++ List.replicate n (0 : UInt8)).length := by rw [List.length_append, List.length_replicate]; omega
    have hb : bt (B (t ++ List.replicate n 0)) (i : Int) = 0 := by
      rw [bt_B _ (i : Int) (by rw [Int.toNat_natCast]; exact hlt)]
      simp only [Int.toNat_natCast]
      rw [List.getElem_append_right hl, List.getElem_replicate]
      rfl
    rw [weirkeeperlaw06_BlockCuts.l1, hz, if_pos (by omega), if_pos (by omega), hb, if_pos rfl, wrap64_in (by omega) (by omega), show ((i : Int) + 1) = ((i + 1 : Nat) : Int) by omega]
    exact tail t n ht hn d (i + 1) k (by omega) (by omega) (by omega)
theorem loop (t : List UInt8) (n : Nat) (ht : t.length ≤ 2000) (hn : n < 32) (L : List (List UInt8)) (hL : L.length ≤ 63) (h32 : ∀ s ∈ L, s.length = 32) (hf : L.flatten = t ++ List.replicate n 0) : ∀ (rest D : List (List UInt8)) (k : Nat), D ++ rest = L → 300 + rest.length ≤ k →
    weirkeeperlaw06_BlockCuts.l0 k (B t) (B D.flatten) (L.map B) (L.length : Int) (D.length : Int) = some true
  | [], D, k, hD, hk => by
    obtain ⟨k, rfl⟩ : ∃ j, k = j + 1 := ⟨k - 1, by omega⟩
    rw [List.append_nil] at hD
    subst hD
    rw [weirkeeperlaw06_BlockCuts.l0, if_neg (by omega), hf, B_size]
    exact tail t n ht hn n t.length k (by omega) (Nat.le_refl _) (by omega)
  | s :: rest, D, k, hD, hk => by
    rw [List.length_cons] at hk
    obtain ⟨k, rfl⟩ : ∃ j, k = j + 1 := ⟨k - 1, by omega⟩
    have hll : L.length = D.length + (rest.length + 1) := by rw [← hD, List.length_append, List.length_cons]
    have hlt : D.length < L.length := by omega
    have hget : L[D.length] = s := by simp only [← hD, List.getElem_append_right (Nat.le_refl _), Nat.sub_self, List.getElem_cons_zero]
    have hs := h32 s (by rw [← hD]; exact List.mem_append_right _ List.mem_cons_self)
    have hfl := flat32 D (fun x hx => h32 x (by rw [← hD]; exact List.mem_append_left _ hx))
    have hsn : D.flatten ++ s = (D ++ [s]).flatten := by rw [List.flatten_append, List.flatten_singleton]
    have e4 : wrap64 ((D.length : Int) + 1) = (((D ++ [s]).length : Nat) : Int) := by rw [wrap64_in (by omega) (by omega), List.length_append, List.length_singleton]; omega
    rw [weirkeeperlaw06_BlockCuts.l0, e4]
    clear e4
    rw [if_pos (by omega), if_pos (by omega), if_pos (by rw [List.length_map]; omega), rdOf_B L D.length hlt, hget, B_size, B_size, if_pos (by omega), if_pos (by omega), B_append, hsn]
    exact loop t n ht hn L hL h32 hf rest (D ++ [s]) k (by rw [List.append_assoc]; exact hD) (by omega)
theorem pure : ∀ (a0 : ByteArray), a0.size ≤ 140737488351232 → ∃ k, F.weirkeeperlaw06_BlockCuts.f k a0 = some true := by
  intro a0 h0
  refine ⟨1000, ?_⟩
  unfold weirkeeperlaw06_BlockCuts.f
  by_cases c : (a0.size : Int) > 2000
  · rw [if_pos c, awake6At _ (by omega)]
    rfl
  · rw [if_neg c]
    rw [B_of a0] at c ⊢
    generalize a0.data.toList = t at c ⊢
    rw [B_size] at c
    have hl := cutL_length _ t (Nat.le_refl _)
    rw [cutB_B t (by omega), Option.bind_some, List.length_map]
    exact loop t (32 * ((t.length + 31) / 32) - t.length) (by omega) (by omega) (cutL t) (by omega) (cutL_32 _ t (Nat.le_refl _)) (cutL_text _ t (Nat.le_refl _)) (cutL t) [] 1000 rfl (by omega)
end Go.Proofs.Ytpkapldkmleppaa.PlBlockCuts
