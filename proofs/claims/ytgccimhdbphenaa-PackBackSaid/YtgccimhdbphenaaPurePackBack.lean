/- Numbers and texts are taken as they were packed, whatever stands behind; bytes that are parts are Texts of them: texts of at most 300 bytes, at most 30; others: the fixed answer. -/
import Derived.Test.YtgccimhdbphenaaFlaw01PackBack
import Derived.Test.YtgccimhdbphenaaPlAwake01
namespace Go.Proofs.Ytgccimhdbphenaa.PlPackBack
open Go.RowKit Go.Proofs.Ytgccimhdbphenaa.F Go.Proofs.YtgccimhdbphenaaW.PrintWords Go.Proofs.YtgccimhdbphenaaW.PrintLast Go.Proofs.YtgccimhdbphenaaW.PrintMore Go.Proofs.Ytgccimhdbphenaa.Pl
set_option linter.unusedVariables false
set_option linter.unusedSimpArgs false


theorem tail_ (s : List UInt8) (hs : s.length ≤ 300) (ls : List (List UInt8)) (K : Nat) (hK : ∀ k, K ≤ k → weirkeeperlaw01_awake.f k = some true) (k : Nat) (hk : K + 700 ≤ k) :
    weirkeeperlaw01_PackBack.l1 (k + 1) (ls.map B) (B s) (-1) = some true := by
  simp only [weirkeeperlaw01_PackBack.l1]
  rw [if_neg (by decide), parts_eq s (by omega) k (by omega), Option.bind_some, hK k (by omega)]
  unfold partsR
  cases hp : partsO s.length s with
  | none => simp
  | some r =>
    obtain ⟨b1, b2, b3⟩ := partsO_back s.length s r (Nat.le_refl _) hp
    simp only
    rw [if_pos trivial, texts_eq r (fun l hl => by have := b2 l hl; omega) (by omega) (by rw [b1]; omega) k (by omega), Option.bind_some]
    have hr : textsR r = (B s, 0) := by unfold textsR; rw [if_pos b2, b1]
    rw [hr, if_pos rfl, if_pos rfl]
    rfl

theorem each (ls : List (List UInt8)) (s : List UInt8) (hls : ∀ l ∈ ls, l.length ≤ 300) (hn : ls.length ≤ 30) (hs : s.length ≤ 300) (K : Nat) (hK : ∀ k, K ≤ k → weirkeeperlaw01_awake.f k = some true) (d : Nat) :
    ∀ k, d ≤ ls.length → K + 701 + d ≤ k → weirkeeperlaw01_PackBack.l1 k (ls.map B) (B s) ((d : Int) - 1) = some true := by
  induction d with
  | zero =>
    intro k _ hk
    obtain ⟨k, rfl⟩ : ∃ m, k = m + 1 := ⟨k - 1, by omega⟩
    exact tail_ s hs ls K hK k (by omega)
  | succ d ih =>
    intro k hd hk
    obtain ⟨k, rfl⟩ : ∃ m, k = m + 1 := ⟨k - 1, by omega⟩
    have e0 : ((d + 1 : Nat) : Int) - 1 = (d : Int) := by omega
    have hlt : d < ls.length := by omega
    have hl := hls _ (List.getElem_mem hlt)
    have w : wrap64 ((d : Int) - 1) = (d : Int) - 1 := wrap64_in (by omega) (by omega)
    have ht : textR ls[d] = (B (be ls[d].length 2 ++ ls[d]), 0) := if_pos (by omega)
    rw [e0]
    simp only [weirkeeperlaw01_PackBack.l1]
    rw [if_pos (by omega), if_pos (by omega), if_pos (by rw [List.length_map]; omega), rdOf_B ls d hlt, text_eq _ (by omega) k (by omega), Option.bind_some, ht]
    simp only
    rw [B_size, B_size, if_pos (by simp [be_length]; omega), B_append, takeText_eq _ (by simp [be_length]; omega) k (by omega), Option.bind_some, takeText_of _ s (by omega)]
    simp only
    rw [if_pos trivial, if_pos trivial, if_pos trivial, if_pos trivial, w]
    exact ih k (by omega) (by omega)

theorem mid (ls : List (List UInt8)) (s : List UInt8) (hls : ∀ l ∈ ls, l.length ≤ 300) (hn : ls.length ≤ 30) (hs : s.length ≤ 300) (K : Nat) (hK : ∀ k, K ≤ k → weirkeeperlaw01_awake.f k = some true) (k : Nat) (hk : K + 10000 ≤ k) :
    weirkeeperlaw01_PackBack.j2 k (ls.map B) (B s) = some true := by
  obtain ⟨k, rfl⟩ : ∃ m, k = m + 2 := ⟨k - 2, by omega⟩
  have hb := textsB_short ls hls
  have h6 : ∀ l ∈ ls, l.length ≤ 65535 := fun l hl => by have := hls l hl; omega
  have hr : textsR ls = (B (textsB ls), 0) := if_pos h6
  have w : wrap64 ((ls.length : Int) - 1) = (ls.length : Int) - 1 := wrap64_in (by omega) (by omega)
  simp only [weirkeeperlaw01_PackBack.j2, weirkeeperlaw01_PackBack.j3]
  rw [texts_eq ls (fun l hl => by have := hls l hl; omega) (by omega) (by omega) _ (by omega), Option.bind_some, hr]
  simp only
  rw [parts_eq _ (by omega) _ (by omega), Option.bind_some, partsR_texts ls h6]
  simp only
  rw [if_pos trivial, if_pos trivial, same_eq ls ls (by omega) _ (by omega), Option.bind_some, decide_eq_true rfl, List.length_map, w]
  rw [if_neg (by decide)]
  exact each ls s hls hn hs K hK ls.length k (Nat.le_refl _) (by omega)

theorem body (n : Nat) (hn64 : n < 18446744073709551616) (size : Int) (hz : -9223372036854775808 ≤ size ∧ size ≤ 9223372036854775807) (ls : List (List UInt8)) (s : List UInt8) (hls : ∀ l ∈ ls, l.length ≤ 300) (hn : ls.length ≤ 30) (hs : s.length ≤ 300) (K : Nat)
    (hK : ∀ k, K ≤ k → weirkeeperlaw01_awake.f k = some true) (k : Nat) (hk : K + 10000 ≤ k) (x : List ByteArray) (m : Int) :
    weirkeeperlaw01_PackBack.l0 (k + 1) (n : Int) size (ls.map B) (B s) x m m = some true := by
  simp only [weirkeeperlaw01_PackBack.l0]
  rw [if_neg (by omega), num_eq n hn64 size hz k (by omega), Option.bind_some, mid ls s hls hn hs K hK k hk]
  by_cases h : 1 ≤ size ∧ size ≤ 8 ∧ n < 256 ^ size.toNat
  · have hr : numR n size = (B (be n size.toNat), 0) := if_pos h
    have hl : (be n size.toNat).length = size.toNat := be_length _ _
    have ht : takeR (be n size.toNat ++ s) size = ((n : Int), B s, 0) := by
      unfold takeR
      rw [if_pos ⟨h.1, h.2.1⟩, if_neg (by rw [List.length_append, be_length]; omega), List.take_append_of_le_length (by omega), List.take_of_length_le (by omega), val_be, Nat.mod_eq_of_lt h.2.2,
        List.drop_append_of_le_length (by omega), List.drop_of_length_le (by omega), List.nil_append]
    rw [hr]
    simp only
    rw [if_pos trivial, B_size, B_size, if_pos (by omega), B_append, take_eq _ (by simp [be_length]; omega) size k (by omega), Option.bind_some, ht]
    simp only
    rw [if_pos trivial, if_pos trivial, if_pos trivial, if_pos (by omega)]
  · have hr : numR n size = (B [], 1) := if_neg h
    rw [hr]
    simp

theorem guard (n : Nat) (hn64 : n < 18446744073709551616) (size : Int) (hz : -9223372036854775808 ≤ size ∧ size ≤ 9223372036854775807) (ls : List (List UInt8)) (s : List UInt8) (hn : ls.length ≤ 30) (hs : s.length ≤ 300) (K : Nat)
    (hK : ∀ k, K ≤ k → weirkeeperlaw01_awake.f k = some true) (d : Nat) :
    ∀ (k i : Nat), i + d = ls.length → K + 10001 + d ≤ k → (∀ l ∈ ls.take i, l.length ≤ 300) →
    weirkeeperlaw01_PackBack.l0 k (n : Int) size (ls.map B) (B s) (ls.map B) (ls.length : Int) (i : Int) = some true := by
  induction d with
  | zero =>
    intro k i hi hk ha
    obtain ⟨k, rfl⟩ : ∃ m, k = m + 1 := ⟨k - 1, by omega⟩
    have e : i = ls.length := by omega
    subst e
    rw [List.take_length] at ha
    exact body n hn64 size hz ls s ha hn hs K hK k (by omega) _ _
  | succ d ih =>
    intro k i hi hk ha
    obtain ⟨k, rfl⟩ : ∃ m, k = m + 1 := ⟨k - 1, by omega⟩
    have hlt : i < ls.length := by omega
    have w4 : wrap64 ((i : Int) + 1) = ((i + 1 : Nat) : Int) := by rw [wrap64_in (by omega) (by omega)]; omega
    simp only [weirkeeperlaw01_PackBack.l0]
    rw [if_pos (by omega), if_pos (by omega), if_pos (by rw [List.length_map]; omega), rdOf_B ls i hlt, B_size]
    by_cases h : (ls[i].length : Int) > 300
    · rw [if_pos h, hK k (by omega)]
      rfl
    · rw [if_neg h, w4]
      refine ih k (i + 1) (by omega) (by omega) fun l hl => ?_
      rw [List.take_succ_eq_append_getElem hlt] at hl
      rcases List.mem_append.1 hl with hl | hl
      · exact ha l hl
      · rw [List.mem_singleton] at hl
        subst hl
        omega

theorem pure : ∀ (a0 : Int) (a1 : Int) (l2 : List ByteArray) (a3 : ByteArray), (Lit.int .u64 a0).wf = true → (Lit.int .i64 a1).wf = true → ((∀ yy ∈ l2, yy.size ≤ maxLen) ∧ l2.length ≤ maxLen) → a3.size ≤ 140737488351232 → ∃ k, F.weirkeeperlaw01_PackBack.f k a0 a1 l2 a3 = some true := by
  intro n size l0 s hn hz _ hs
  obtain ⟨K, hK⟩ := awake_holds
  obtain ⟨n, rfl⟩ := Int.eq_ofNat_of_zero_le (wf_u64 hn).1
  have hn2 := (wf_u64 hn).2
  have hz2 := wf_i64 hz
  refine ⟨K + 11000, ?_⟩
  unfold weirkeeperlaw01_PackBack.f
  simp only [weirkeeperlaw01_PackBack.j0]
  by_cases h : (l0.length : Int) > 30
  · rw [if_pos h, if_pos trivial, hK _ (by omega)]
    rfl
  · rw [if_neg h]
    by_cases h2 : (s.size : Int) > 300
    · rw [decide_eq_true h2, if_pos rfl, hK _ (by omega)]
      rfl
    · rw [decide_eq_false h2, if_neg (by decide)]
      have e0 := strs_of l0
      have e1 := B_of s
      have := guard n (by omega) size hz2 (l0.map fun s => s.data.toList) s.data.toList (by simp; omega) (by rw [data_length]; omega) K hK l0.length (K + 10999) 0 (by simp) (by omega) (by simp)
      rw [← e0, ← e1, List.length_map] at this
      exact this
end Go.Proofs.Ytgccimhdbphenaa.PlPackBack
