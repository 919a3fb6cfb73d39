/- The bytes of texts, and of others, are together those of all: lists of at most 30 texts of at most 300 bytes; others: the fixed answer. -/
import Derived.Test.YtgccimhdbphenaaFlaw01PackJoins
import Derived.Test.YtgccimhdbphenaaPlAwake01
namespace Go.Proofs.Ytgccimhdbphenaa.PlPackJoins
open Go.RowKit Go.Proofs.Ytgccimhdbphenaa.F Go.Proofs.YtgccimhdbphenaaW.PrintWords Go.Proofs.YtgccimhdbphenaaW.PrintLast Go.Proofs.YtgccimhdbphenaaW.PrintMore Go.Proofs.Ytgccimhdbphenaa.Pl
set_option linter.unusedVariables false
set_option linter.unusedSimpArgs false


theorem body (a b : List (List UInt8)) (ha : a.length ≤ 30) (hb : b.length ≤ 30) (hl : ∀ l ∈ a ++ b, l.length ≤ 300) (K : Nat) (hK : ∀ k, K ≤ k → weirkeeperlaw01_awake.f k = some true) (k : Nat) (hk : K + 700 ≤ k) (n : Int) (x : List ByteArray) :
    weirkeeperlaw01_PackJoins.l0 (k + 1) (a.map B) (b.map B) x n n = some true := by
  have h1 : ∀ l ∈ a, l.length ≤ 300 := fun l h => hl l (List.mem_append_left _ h)
  have h2 : ∀ l ∈ b, l.length ≤ 300 := fun l h => hl l (List.mem_append_right _ h)
  have s1 := textsB_short a h1
  have s2 := textsB_short b h2
  have s3 := textsB_short (a ++ b) hl
  rw [List.length_append] at s3
  have r : ∀ ls : List (List UInt8), (∀ l ∈ ls, l.length ≤ 300) → textsR ls = (B (textsB ls), 0) := fun ls h => if_pos fun l hl => by have := h l hl; omega
  simp only [weirkeeperlaw01_PackJoins.l0]
  have c1 : ([] : List ByteArray).length + (a.map B).length < 8796093022208 := by simp; omega
  have c2 : (([] : List ByteArray) ++ a.map B).length + (b.map B).length < 8796093022208 := by simp; omega
  rw [if_neg (by omega), texts_eq a (fun l hl => by have := h1 l hl; omega) (by omega) (by omega) k (by omega), Option.bind_some,
    texts_eq b (fun l hl => by have := h2 l hl; omega) (by omega) (by omega) k (by omega), Option.bind_some, Option.bind_some, if_pos c1, Option.bind_some, if_pos c2, List.nil_append, ← List.map_append,
    texts_eq (a ++ b) (fun l h => by have := hl l h; omega) (by rw [List.length_append]; omega) (by omega) k (by rw [List.length_append]; omega), Option.bind_some, r a h1, r b h2, r (a ++ b) hl]
  simp only
  rw [if_pos trivial, if_pos trivial, if_pos trivial, B_size, B_size, if_pos (by omega), B_append, textsB_append, if_pos rfl, hK k (by omega)]
  rfl

theorem guard (a b : List (List UInt8)) (ha : a.length ≤ 30) (hb : b.length ≤ 30) (K : Nat) (hK : ∀ k, K ≤ k → weirkeeperlaw01_awake.f k = some true) (d : Nat) :
    ∀ (k i : Nat), i + d = (a ++ b).length → K + 701 + d ≤ k → (∀ l ∈ (a ++ b).take i, l.length ≤ 300) →
    weirkeeperlaw01_PackJoins.l0 k (a.map B) (b.map B) ((a ++ b).map B) ((a ++ b).length : Int) (i : Int) = some true := by
  have hab : (a ++ b).length ≤ 60 := by rw [List.length_append]; omega
  induction d with
  | zero =>
    intro k i hi hk hall
    obtain ⟨k, rfl⟩ : ∃ m, k = m + 1 := ⟨k - 1, by omega⟩
    have e : i = (a ++ b).length := by omega
    subst e
    rw [List.take_length] at hall
    exact body a b ha hb hall K hK k (by omega) _ _
  | succ d ih =>
    intro k i hi hk hall
    obtain ⟨k, rfl⟩ : ∃ m, k = m + 1 := ⟨k - 1, by omega⟩
    have hlt : i < (a ++ b).length := by omega
    have w4 : wrap64 ((i : Int) + 1) = ((i + 1 : Nat) : Int) := by rw [wrap64_in (by omega) (by omega)]; omega
    simp only [weirkeeperlaw01_PackJoins.l0]
    rw [if_pos (by omega), if_pos (by omega), if_pos (by rw [List.length_map]; omega), rdOf_B (a ++ b) i hlt, B_size]
    by_cases h : ((a ++ b)[i].length : Int) > 300
    · rw [if_pos h, hK k (by omega)]
      rfl
    · rw [if_neg h, w4]
      refine ih k (i + 1) (by omega) (by omega) fun l hl => ?_
      rw [List.take_succ_eq_append_getElem hlt] at hl
      rcases List.mem_append.1 hl with hl | hl
      · exact hall l hl
      · rw [List.mem_singleton] at hl
        subst hl
        omega

theorem pure : ∀ (l0 : List ByteArray) (l1 : List ByteArray), ((∀ yy ∈ l0, yy.size ≤ maxLen) ∧ l0.length ≤ maxLen) → ((∀ yy ∈ l1, yy.size ≤ maxLen) ∧ l1.length ≤ maxLen) → ∃ k, F.weirkeeperlaw01_PackJoins.f k l0 l1 = some true := by
  intro l0 l1 _ _
  obtain ⟨K, hK⟩ := awake_holds
  refine ⟨K + 900, ?_⟩
  unfold weirkeeperlaw01_PackJoins.f
  simp only [weirkeeperlaw01_PackJoins.j0]
  by_cases h : (l0.length : Int) > 30
  · rw [if_pos h, if_pos trivial, hK _ (by omega)]
    rfl
  · rw [if_neg h]
    by_cases h2 : (l1.length : Int) > 30
    · rw [decide_eq_true h2, if_pos rfl, hK _ (by omega)]
      rfl
    · rw [decide_eq_false h2, if_neg (by decide)]
      have c1 : ([] : List ByteArray).length + l0.length < 8796093022208 := by simp; omega
      have c2 : (([] : List ByteArray) ++ l0).length + l1.length < 8796093022208 := by simp; omega
      rw [Option.bind_some, if_pos c1, Option.bind_some, if_pos c2, Option.bind_some, List.nil_append]
      have e0 := strs_of l0
      have e1 := strs_of l1
      have := guard (l0.map fun s => s.data.toList) (l1.map fun s => s.data.toList) (by simp; omega) (by simp; omega) K hK (l0 ++ l1).length (K + 899) 0 (by simp) (by simp; omega) (by simp)
      rw [List.map_append, ← e0, ← e1] at this
      simpa using this
end Go.Proofs.Ytgccimhdbphenaa.PlPackJoins
