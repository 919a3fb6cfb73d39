import Derived.Test.YthcohkgpbjcliaaBase
import Derived.Test.YthcohkgpbjcliaaPackSpec
namespace Go.Proofs.Ythcohkgpbjcliaa.Pl
open Go.RowKit Go.Proofs.YthcohkgpbjcliaaW.PrintWords Go.Proofs.YthcohkgpbjcliaaW.PrintMore
set_option linter.unusedVariables false
set_option linter.unusedSimpArgs false
def pad32 (l : List UInt8) : List UInt8 := l ++ List.replicate (32 - l.length) 0
theorem pad32_length (l : List UInt8) (h : l.length ≤ 32) : (pad32 l).length = 32 := by simp [pad32]; omega
theorem pad32_full (l : List UInt8) (h : l.length = 32) : pad32 l = l := by simp [pad32, h]
def cutF : Nat → List UInt8 → List (List UInt8)
  | 0, _ => []
  | n + 1, l => if l = [] then [] else pad32 (l.take 32) :: cutF n (l.drop 32)
def cutL (l : List UInt8) : List (List UInt8) := cutF l.length l
theorem cutF_more : ∀ (n m : Nat) (l : List UInt8), l.length ≤ n → l.length ≤ m → cutF n l = cutF m l
  | 0, 0, l, _, _ => rfl
  | 0, m + 1, l, h, _ => by rw [cutF, cutF, if_pos (List.eq_nil_of_length_eq_zero (by omega))]
  | n + 1, 0, l, _, h => by rw [cutF, cutF, if_pos (List.eq_nil_of_length_eq_zero (by omega))]
  | n + 1, m + 1, l, h1, h2 => by
    by_cases e : l = []
    · rw [cutF, cutF, if_pos e, if_pos e]
    · rw [cutF, cutF, if_neg e, if_neg e, cutF_more n m _ (by rw [List.length_drop]; omega) (by rw [List.length_drop]; omega)]
theorem cutL_nil : cutL [] = [] := rfl
theorem cutL_cons (l : List UInt8) (h : l ≠ []) : cutL l = pad32 (l.take 32) :: cutL (l.drop 32) := by
  have : 0 < l.length := List.length_pos_iff.2 h
  obtain ⟨n, hn⟩ : ∃ n, l.length = n + 1 := ⟨l.length - 1, by omega⟩
  rw [cutL, hn, cutF, if_neg h, cutL, cutF_more n (l.drop 32).length _ (by rw [List.length_drop]; omega) (Nat.le_refl _)]
theorem cutL_32 : ∀ (n : Nat) (l : List UInt8), l.length ≤ n → ∀ s ∈ cutL l, s.length = 32
  | 0, l, h, s, hs => by
    obtain rfl := List.eq_nil_of_length_eq_zero (Nat.le_zero.1 h)
    rw [cutL_nil] at hs
    cases hs
  | n + 1, l, h, s, hs => by
    by_cases e : l = []
    · subst e; rw [cutL_nil] at hs; cases hs
    · rw [cutL_cons l e] at hs
      rcases List.mem_cons.1 hs with rfl | hs
      · exact pad32_length _ (by rw [List.length_take]; omega)
      · have : 0 < l.length := List.length_pos_iff.2 e
        exact cutL_32 n _ (by rw [List.length_drop]; omega) s hs
theorem cutL_length : ∀ (n : Nat) (l : List UInt8), l.length ≤ n → (cutL l).length = (l.length + 31) / 32
  | 0, l, h => by
    obtain rfl := List.eq_nil_of_length_eq_zero (Nat.le_zero.1 h)
    rw [cutL_nil]
    rfl
  | n + 1, l, h => by
    by_cases e : l = []
    · subst e; rw [cutL_nil]; rfl
    · have : 0 < l.length := List.length_pos_iff.2 e
      rw [cutL_cons l e, List.length_cons, cutL_length n _ (by rw [List.length_drop]; omega), List.length_drop]
      omega
theorem cutL_text : ∀ (n : Nat) (l : List UInt8), l.length ≤ n → (cutL l).flatten = l ++ List.replicate (32 * ((l.length + 31) / 32) - l.length) 0
  | 0, l, h => by
    obtain rfl := List.eq_nil_of_length_eq_zero (Nat.le_zero.1 h)
    rw [cutL_nil]
    rfl
  | n + 1, l, h => by
    by_cases e : l = []
    · subst e; rw [cutL_nil]; rfl
    · have h0 : 0 < l.length := List.length_pos_iff.2 e
      rw [cutL_cons l e, List.flatten_cons, cutL_text n _ (by rw [List.length_drop]; omega), List.length_drop, pad32]
      by_cases c : l.length ≤ 32
      · rw [List.take_of_length_le c, List.drop_of_length_le c, List.nil_append, List.append_assoc, List.replicate_append_replicate]
        congr 2
        omega
      · rw [List.length_take, Nat.min_eq_left (by omega), Nat.sub_self, List.replicate_zero, List.append_nil, ← List.append_assoc, List.take_append_drop]
        congr 2
        omega
def headL (gen at_ n : Nat) : List UInt8 := be gen 4 ++ be at_ 2 ++ be n 2
def lenL (s : List UInt8) : Nat := val ((s.drop 6).take 2)
def txtL (s : List UInt8) : List UInt8 := (s.drop 8).take (min (lenL s) 24)
def okL (gen at_ : Nat) (s : List UInt8) : Prop := s.length = 32 ∧ lenL s ≤ 1000 ∧ s = headL gen at_ (lenL s) ++ txtL s ++ List.replicate (24 - (txtL s).length) 0
instance (gen at_ : Nat) (s : List UInt8) : Decidable (okL gen at_ s) := by unfold okL; infer_instance
end Go.Proofs.Ythcohkgpbjcliaa.Pl
