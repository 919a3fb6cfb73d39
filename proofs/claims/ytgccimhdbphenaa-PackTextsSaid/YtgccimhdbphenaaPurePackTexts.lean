/- What pack.Texts, TakeText and Parts answer is what the document's answer, at texts of at most 300 bytes (at most 30); others: the fixed answer. -/
import Derived.Test.YtgccimhdbphenaaFlaw01PackTexts
import Derived.Test.YtgccimhdbphenaaPlAwake01
namespace Go.Proofs.Ytgccimhdbphenaa.PlPackTexts
open Go.RowKit Go.Proofs.Ytgccimhdbphenaa.F Go.Proofs.YtgccimhdbphenaaW.PrintWords Go.Proofs.YtgccimhdbphenaaW.PrintLast Go.Proofs.YtgccimhdbphenaaW.PrintMore Go.Proofs.Ytgccimhdbphenaa.Pl
set_option linter.unusedVariables false
set_option linter.unusedSimpArgs false


theorem body (ls : List (List UInt8)) (s : List UInt8) (hls : ∀ l ∈ ls, l.length ≤ 300) (hn : ls.length ≤ 30) (hs : s.length ≤ 300) (K : Nat) (hK : ∀ k, K ≤ k → weirkeeperlaw01_awake.f k = some true) (k : Nat) (hk : K + 700 ≤ k) :
    weirkeeperlaw01_PackTexts.l0 (k + 1) (ls.map B) (B s) (ls.map B) (ls.length : Int) (ls.length : Int) = some true := by
  have hb := textsB_short ls hls
  have hpl : ∀ r, partsO s.length s = some r → r.length ≤ s.length := fun r hr => (partsO_back s.length s r (Nat.le_refl _) hr).2.2
  simp only [weirkeeperlaw01_PackTexts.l0]
  rw [if_neg (by omega), texts_eq ls (fun l hl => by have := hls l hl; omega) (by omega) (by omega) k (by omega), Option.bind_some,
    rtexts_eq ls (by omega) (by omega) k (by omega), Option.bind_some, takeText_eq s (by omega) k (by omega), Option.bind_some, rtakeText_eq s (by omega), Option.bind_some,
    parts_eq s (by omega) k (by omega), Option.bind_some, rparts_eq s (by omega) k (by omega), Option.bind_some]
  rw [if_pos rfl, if_pos rfl, if_pos rfl, if_pos rfl, if_pos rfl]
  have hsame : weirkeeperref01_Same.f k (partsR s).1 (partsR s).1 = some true := by
    unfold partsR
    cases hp : partsO s.length s with
    | none => simpa using same_eq [] [] (by simp) k (by simp; omega)
    | some r =>
      have := hpl r hp
      simpa using same_eq r r (by omega) k (by omega)
  rw [hsame, Option.bind_some, if_pos rfl, if_pos rfl, hK k (by omega)]
  rfl

theorem guard (ls : List (List UInt8)) (s : List UInt8) (hn : ls.length ≤ 30) (hs : s.length ≤ 300) (K : Nat) (hK : ∀ k, K ≤ k → weirkeeperlaw01_awake.f k = some true) (d : Nat) :
    ∀ (k i : Nat), i + d = ls.length → K + 701 + d ≤ k → (∀ l ∈ ls.take i, l.length ≤ 300) →
    weirkeeperlaw01_PackTexts.l0 k (ls.map B) (B s) (ls.map B) (ls.length : Int) (i : Int) = some true := by
  induction d with
  | zero =>
    intro k i hi hk ha
    obtain ⟨k, rfl⟩ : ∃ m, k = m + 1 := ⟨k - 1, by omega⟩
    have e : i = ls.length := by omega
    subst e
    rw [List.take_length] at ha
    exact body ls s ha hn hs K hK k (by omega)
  | succ d ih =>
    intro k i hi hk ha
    obtain ⟨k, rfl⟩ : ∃ m, k = m + 1 := ⟨k - 1, by omega⟩
    have hlt : i < ls.length := by omega
    have w4 : wrap64 ((i : Int) + 1) = ((i + 1 : Nat) : Int) := by rw [wrap64_in (by omega) (by omega)]; omega
    simp only [weirkeeperlaw01_PackTexts.l0]
    rw [if_pos (by omega), if_pos (by omega), if_pos (by rw [List.length_map]; omega), rdOf_B ls i hlt, B_size]
    by_cases h : (ls[i].length : Int) > 300
    · rw [if_pos h, hK k (by omega)]
      rfl
    · rw [if_neg h, w4]
      refine ih k (i + 1) (by omega) (by omega) fun l hl => ?_
      rw [List.take_succ_eq_append_getElem hlt] at hl
      rcases List.mem_append.1 hl with hl | hl
      · exact ha l hl
      · rw [List.mem_singleton] at hl
        subst hl
        omega

theorem pure : ∀ (l0 : List ByteArray) (a1 : ByteArray), ((∀ yy ∈ l0, yy.size ≤ maxLen) ∧ l0.length ≤ maxLen) → a1.size ≤ 140737488351232 → ∃ k, F.weirkeeperlaw01_PackTexts.f k l0 a1 = some true := by
  intro l0 s _ hs
  obtain ⟨K, hK⟩ := awake_holds
  refine ⟨K + 900, ?_⟩
  unfold weirkeeperlaw01_PackTexts.f
  by_cases h : (l0.length : Int) > 30
  · rw [if_pos h]
    simp only [weirkeeperlaw01_PackTexts.j0]
    rw [if_pos trivial, hK _ (by omega)]
    rfl
  · rw [if_neg h]
    simp only [weirkeeperlaw01_PackTexts.j0]
    by_cases h2 : (s.size : Int) > 300
    · rw [decide_eq_true h2, if_pos rfl, hK _ (by omega)]
      rfl
    · rw [decide_eq_false h2, if_neg (by decide)]
      rw [strs_of l0, B_of s]
      have := guard (l0.map fun s => s.data.toList) s.data.toList (by simp; omega) (by rw [data_length]; omega) K hK l0.length (K + 899) 0 (by simp) (by omega) (by simp)
      rw [List.length_map]
      rw [List.length_map] at this
      simpa using this
end Go.Proofs.Ytgccimhdbphenaa.PlPackTexts
