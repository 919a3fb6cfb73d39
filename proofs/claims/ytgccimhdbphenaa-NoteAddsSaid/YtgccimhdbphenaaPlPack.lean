/- What the functions of package pack on many texts come to. -/
import Derived.Test.YtgccimhdbphenaaPlPackA
namespace Go.Proofs.Ytgccimhdbphenaa.Pl
open Go.RowKit Go.Proofs.Ytgccimhdbphenaa.F Go.Proofs.YtgccimhdbphenaaW.PrintWords Go.Proofs.YtgccimhdbphenaaW.PrintLast Go.Proofs.YtgccimhdbphenaaW.PrintMore
set_option linter.unusedVariables false
set_option linter.unusedSimpArgs false

theorem texts_loop (ls : List (List UInt8)) (hls : ∀ l ∈ ls, l.length ≤ 9223372036854775000) (hn : ls.length ≤ 9223372036854775806) (d : Nat) : ∀ (k i : Nat) (x : List UInt8), i + d = ls.length → d + 13 < k →
    x.length + (textsB (ls.drop i)).length ≤ 9223372036854775807 →
    pack_Texts.l0 k (B x) (ls.map B) (ls.length : Int) (i : Int) = some (if ∀ l ∈ ls.drop i, l.length ≤ 65535 then (B (x ++ textsB (ls.drop i)), 0) else (B [], 1)) := by
  induction d with
  | zero =>
    intro k i x hi hk _
    obtain ⟨k, rfl⟩ : ∃ m, k = m + 1 := ⟨k - 1, by omega⟩
    simp only [pack_Texts.l0]
    rw [if_neg (by omega), List.drop_of_length_le (by omega), if_pos (by simp)]
    simp [textsB]
  | succ d ih =>
    intro k i x hi hk hx
    obtain ⟨k, rfl⟩ : ∃ m, k = m + 1 := ⟨k - 1, by omega⟩
    have w4 : wrap64 ((i : Int) + 1) = ((i + 1 : Nat) : Int) := by rw [wrap64_in (by omega) (by omega)]; omega
    have hlt : i < ls.length := by omega
    have hd : ls.drop i = ls[i] :: ls.drop (i + 1) := List.drop_eq_getElem_cons hlt
    rw [hd, textsB_cons] at hx
    simp only [List.length_append, be_length] at hx
    simp only [pack_Texts.l0]
    rw [if_pos (by omega), if_pos (by omega), if_pos (by rw [List.length_map]; omega), rdOf_B ls i hlt, text_eq _ (hls _ (List.getElem_mem hlt)) k (by omega), Option.bind_some, textR, hd]
    by_cases h : ls[i].length ≤ 65535
    · rw [if_pos h]
      simp only
      rw [if_pos trivial, B_size, B_size, if_pos (by simp [be_length]; omega), w4, B_append, ih k (i + 1) _ (by omega) (by omega) (by simp [be_length]; omega)]
      congr 1
      rw [textsB_cons]
      by_cases ha : ∀ l ∈ ls.drop (i + 1), l.length ≤ 65535
      · rw [if_pos ha, if_pos (by intro l hl; rcases List.mem_cons.1 hl with rfl | hl; exact h; exact ha l hl)]
        simp
      · rw [if_neg ha, if_neg (fun hh => ha fun l hl => hh l (List.mem_cons_of_mem _ hl))]
    · rw [if_neg h]
      simp only
      rw [if_neg (by omega), if_neg (fun hh => h (hh _ (List.mem_cons_self ..)))]
      rfl

theorem texts_eq (ls : List (List UInt8)) (hls : ∀ l ∈ ls, l.length ≤ 9223372036854775000) (hn : ls.length ≤ 9223372036854775806) (hb : (textsB ls).length ≤ 9223372036854775807) (k : Nat) (hk : ls.length + 14 ≤ k) :
    pack_Texts.f k (ls.map B) = some (textsR ls) := by
  unfold pack_Texts.f textsR
  have := texts_loop ls hls hn ls.length k 0 [] (by omega) (by omega) (by simpa using hb)
  simpa [B_nil] using this

theorem parts_loop (f : Nat) : ∀ (k : Nat) (l : List UInt8) (x : List ByteArray), l.length ≤ f → f + 13 < k → x.length + l.length < 8796093022208 →
    pack_Parts.l0 k (B l) x = some (match partsO f l with | some r => (x ++ r.map B, 0) | none => ([], 2)) := by
  induction f with
  | zero =>
    intro k l x hl hk hx
    obtain ⟨k, rfl⟩ : ∃ m, k = m + 1 := ⟨k - 1, by omega⟩
    have e : l = [] := List.eq_nil_of_length_eq_zero (by omega)
    subst e
    simp only [pack_Parts.l0]
    rw [B_toList, if_pos rfl]
    simp [partsO]
  | succ f ih =>
    intro k l x hl hk hx
    obtain ⟨k, rfl⟩ : ∃ m, k = m + 1 := ⟨k - 1, by omega⟩
    simp only [pack_Parts.l0]
    rw [B_toList]
    by_cases e : l = []
    · rw [if_pos e]
      subst e
      simp [partsO]
    · rw [if_neg e, takeText_eq l (by omega) k (by omega), Option.bind_some, takeTextR, partsO, if_neg e]
      by_cases hc : l.length < 2 ∨ l.length < 2 + val (l.take 2)
      · rw [if_pos hc, if_pos hc]
        simp only
        rw [if_neg (by omega)]
      · rw [if_neg hc, if_neg hc]
        simp only
        rw [if_pos trivial, if_pos (by omega), ih k _ _ (by simp; omega) (by omega) (by simp; omega)]
        cases hp : partsO f ((l.drop 2).drop (val (l.take 2))) <;> simp

theorem parts_eq (l : List UInt8) (hl : l.length < 8796093022208) (k : Nat) (hk : l.length + 14 ≤ k) : pack_Parts.f k (B l) = some (partsR l) := by
  unfold pack_Parts.f partsR
  rw [parts_loop l.length k l [] (Nat.le_refl _) (by omega) (by simpa using hl)]
  cases partsO l.length l <;> simp

end Go.Proofs.Ytgccimhdbphenaa.Pl
