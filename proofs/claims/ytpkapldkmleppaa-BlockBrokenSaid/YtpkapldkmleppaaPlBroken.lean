/- A text's sectors of which one byte, behind the first four, is another one are refused: the sum tells it. No program here but the table of the sums. -/
import Derived.Test.YtpkapldkmleppaaPlBlock
namespace Go.Proofs.Ytpkapldkmleppaa.Pl
open Go.RowKit Go.Proofs.Ytpkapldkmleppaa.F Go.Proofs.YtpkapldkmleppaaW.PrintWords Go.Proofs.YtpkapldkmleppaaW.PrintLast Go.Proofs.YtpkapldkmleppaaW.PrintMore
set_option linter.unusedVariables false
set_option linter.unusedSimpArgs false
/-- the place of a table's entry, by its lowest byte -/
def invT : List Nat := [0, 247, 104, 159, 209, 38, 185, 78, 36, 211, 76, 187, 245, 2, 157, 106, 73, 190, 33, 214, 152, 111, 240, 7, 109, 154, 5, 242, 188, 75, 212, 35, 146, 101, 250, 13, 67, 180, 43, 220, 182, 65, 222, 41, 103, 144, 15, 248, 219, 44, 179, 68, 10, 253, 98, 149, 255, 8, 151, 96, 46, 217, 70, 177, 162, 85, 202, 61, 115, 132, 27, 236, 134, 113, 238, 25, 87, 160, 63, 200, 235, 28, 131, 116, 58, 205, 82, 165, 207, 56, 167, 80, 30, 233, 118, 129, 48, 199, 88, 175, 225, 22, 137, 126, 20, 227, 124, 139, 197, 50, 173, 90, 121, 142, 17, 230, 168, 95, 192, 55, 93, 170, 53, 194, 140, 123, 228, 19, 195, 52, 171, 92, 18, 229, 122, 141, 231, 16, 143, 120, 54, 193, 94, 169, 138, 125, 226, 21, 91, 172, 51, 196, 174, 89, 198, 49, 127, 136, 23, 224, 81, 166, 57, 206, 128, 119, 232, 31, 117, 130, 29, 234, 164, 83, 204, 59, 24, 239, 112, 135, 201, 62, 161, 86, 60, 203, 84, 163, 237, 26, 133, 114, 97, 150, 9, 254, 176, 71, 216, 47, 69, 178, 45, 218, 148, 99, 252, 11, 40, 223, 64, 183, 249, 14, 145, 102, 12, 251, 100, 147, 221, 42, 181, 66, 243, 4, 155, 108, 34, 213, 74, 189, 215, 32, 191, 72, 6, 241, 110, 153, 186, 77, 210, 37, 107, 156, 3, 244, 158, 105, 246, 1, 79, 184, 39, 208]
theorem inv_all : (List.range 256).all (fun i => invT.getD (tabNat i % 256) 0 == i) = true := by decide +kernel
theorem tab_low (i j : Nat) (hi : i < 256) (hj : j < 256) (h : tabNat i % 256 = tabNat j % 256) : i = j := by
  have h1 := List.all_eq_true.1 inv_all i (List.mem_range.2 hi)
  have h2 := List.all_eq_true.1 inv_all j (List.mem_range.2 hj)
  rw [beq_iff_eq] at h1 h2
  rw [← h1, ← h2, h]
theorem xor_right (a b t : Nat) (h : a ^^^ t = b ^^^ t) : a = b := by
  have := congrArg (· ^^^ t) h
  simpa [Nat.xor_assoc] using this
theorem xor_left (a b t : Nat) (h : t ^^^ a = t ^^^ b) : a = b := by
  rw [Nat.xor_comm t a, Nat.xor_comm t b] at h
  exact xor_right a b t h
theorem step_parts (s s' c c' : Nat) (hs : s < 16777216) (hs' : s' < 16777216) (hc : c < 256) (hc' : c' < 256)
    (h : (s * 256 % 16777216) ^^^ tabNat ((s / 65536) ^^^ c) = (s' * 256 % 16777216) ^^^ tabNat ((s' / 65536) ^^^ c')) : (s / 65536) ^^^ c = (s' / 65536) ^^^ c' ∧ s * 256 % 16777216 = s' * 256 % 16777216 := by
  have k1 := (step_lt s c hs hc).1
  have k2 := (step_lt s' c' hs' hc').1
  have hm := congrArg (· % 2 ^ 8) h
  simp only [Nat.xor_mod_two_pow] at hm
  rw [show s * 256 % 16777216 % 2 ^ 8 = 0 by omega, show s' * 256 % 16777216 % 2 ^ 8 = 0 by omega, Nat.zero_xor, Nat.zero_xor] at hm
  have hi := tab_low _ _ k1 k2 hm
  rw [hi] at h
  exact ⟨hi, xor_right _ _ _ h⟩
theorem moreN_inj : ∀ (l : List UInt8) (s s' : Nat), s < 16777216 → s' < 16777216 → moreN s l = moreN s' l → s = s'
  | [], s, s', _, _, h => h
  | c :: l, s, s', hs, hs', h => by
    rw [moreN, moreN] at h
    have h2 := moreN_inj l _ _ (step_lt s c.toNat hs c.toNat_lt).2 (step_lt s' c.toNat hs' c.toNat_lt).2 h
    obtain ⟨h3, h4⟩ := step_parts s s' c.toNat c.toNat hs hs' c.toNat_lt c.toNat_lt h2
    have h5 := xor_right _ _ _ h3
    omega
theorem moreN_one (a d : List UInt8) (c c' : UInt8) (s : Nat) (hs : s < 16777216) (h : moreN s (a ++ c :: d) = moreN s (a ++ c' :: d)) : c = c' := by
  rw [moreN_append, moreN_append, moreN, moreN] at h
  have ha := moreN_lt a s hs
  have h2 := moreN_inj d _ _ (step_lt _ c.toNat ha c.toNat_lt).2 (step_lt _ c'.toNat ha c'.toNat_lt).2 h
  have h3 := xor_left _ _ _ (step_parts _ _ c.toNat c'.toNat ha ha c.toNat_lt c'.toNat_lt h2).1
  exact UInt8.toNat_inj.1 h3
theorem sum_set (x t : List UInt8) (i : Nat) (v : UInt8) (h : sumN (x ++ t.set i v) = sumN (x ++ t)) : t.set i v = t := by
  by_cases c : i < t.length
  · have e1 : t = t.take i ++ t[i] :: t.drop (i + 1) := by rw [← List.drop_eq_getElem_cons c, List.take_append_drop]
    have e2 : t.set i v = t.take i ++ v :: t.drop (i + 1) := by rw [List.set_eq_take_append_cons_drop, if_pos c]
    unfold sumN at h
    rw [e2] at h ⊢
    conv at h => rhs; rw [e1]
    rw [← List.append_assoc, ← List.append_assoc] at h
    have := moreN_one _ _ _ _ _ (by decide) h
    rw [this]
    exact e1.symm
  · rw [List.set_eq_of_length_le (by omega)]
theorem broken (t : List UInt8) (ht : t.length ≤ 65535) (p : Nat) (hp : 4 ≤ p) (v : UInt8) (hne : ((secB t).flatten).set p v ≠ (secB t).flatten) : readR (((secB t).flatten).set p v) ((needB t.length : Nat) : Int) = (B [], 4) := by
  have h7 := headB_length t
  have hfl := flat32 _ (secB_32 t)
  rw [secB_length] at hfl
  have hbig : 7 + t.length ≤ 32 * needB t.length := by unfold needB; omega
  have e1 : ((secB t).flatten).take 4 = be t.length 4 := by
    rw [secB_flat, headB, List.append_assoc, List.append_assoc, List.take_append_of_le_length (by rw [be_length]; omega), List.take_of_length_le (by rw [be_length]; omega)]
  have e2 : ((secB t).flatten).drop 7 = t ++ List.replicate (32 * needB t.length - (7 + t.length)) 0 := by
    rw [secB_flat, List.append_assoc, List.drop_append_of_le_length (by omega), List.drop_of_length_le (by omega), List.nil_append]
  have e4 : ((secB t).flatten).take 7 = headB t := by
    rw [secB_flat, List.append_assoc, List.take_append_of_le_length (by omega), List.take_of_length_le (by omega)]
  have e3 : val (be t.length 4) = t.length := by rw [val_be]; omega
  have t4 : (((secB t).flatten).set p v).take 4 = be t.length 4 := by rw [List.take_set_of_le hp, e1]
  unfold readR
  rw [t4, e3, List.length_set, hfl, if_pos ⟨by omega, ht, rfl⟩, if_neg]
  intro h
  have hl2 : (((((secB t).flatten).set p v).drop 7).take t.length).length = t.length := by rw [List.length_take, List.length_drop, List.length_set, hfl]; omega
  generalize hx : ((((secB t).flatten).set p v).drop 7).take t.length = x at h hl2
  have hxt : x = t := by
    by_cases c : p < 7
    · rw [← hx, List.drop_set_of_lt c, e2, List.take_left]
    · have h1 : (((secB t).flatten).set p v).take 7 = headB t := by rw [List.take_set_of_le (by omega), e4]
      have h2 : ((secB x).flatten).take 7 = headB x := by
        rw [secB_flat, List.append_assoc, List.take_append_of_le_length (by rw [headB_length]; omega), List.take_of_length_le (by rw [headB_length]; omega)]
      rw [h, h2, headB, headB, hl2] at h1
      have h3 := List.append_cancel_left h1
      have hsx : sumN (be t.length 4 ++ x) < 256 ^ 3 := moreN_lt _ _ (by decide)
      have hst : sumN (be t.length 4 ++ t) < 256 ^ 3 := moreN_lt _ _ (by decide)
      have h4 := be_inj hsx hst h3
      have hx2 : x = t.set (p - 7) v := by
        rw [← hx, List.drop_set, if_neg c, e2]
        by_cases c2 : p - 7 < t.length
        · rw [List.set_append_left _ _ c2, List.take_left' (by rw [List.length_set])]
        · rw [List.set_append_right _ _ (by omega), List.take_left, List.set_eq_of_length_le (by omega)]
      rw [hx2] at h4 ⊢
      exact sum_set _ _ _ _ h4
  rw [hxt] at h
  exact hne h
end Go.Proofs.Ytpkapldkmleppaa.Pl
