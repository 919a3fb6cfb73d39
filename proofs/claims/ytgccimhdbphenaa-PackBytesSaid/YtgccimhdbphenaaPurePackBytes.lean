/- A number of one byte is that byte, one of eight bytes any number may be, one of two bytes is 256 times the first byte and the second one. -/
import Derived.Test.YtgccimhdbphenaaFlaw01PackBytes
import Derived.Test.YtgccimhdbphenaaPlAwake01
namespace Go.Proofs.Ytgccimhdbphenaa.PlPackBytes
open Go.RowKit Go.Proofs.Ytgccimhdbphenaa.F Go.Proofs.YtgccimhdbphenaaW.PrintWords Go.Proofs.YtgccimhdbphenaaW.PrintLast Go.Proofs.YtgccimhdbphenaaW.PrintMore Go.Proofs.Ytgccimhdbphenaa.Pl
set_option linter.unusedVariables false
set_option linter.unusedSimpArgs false


theorem pure : ∀ (a0 : Int) (a1 : Int) (a2 : Int), (Lit.int .u64 a0).wf = true → (Lit.int .u8 a1).wf = true → (Lit.int .u8 a2).wf = true → ∃ k, F.weirkeeperlaw01_PackBytes.f k a0 a1 a2 = some true := by
  intro n a b hn ha hb
  obtain ⟨K, hK⟩ := awake_holds
  obtain ⟨n, rfl⟩ := Int.eq_ofNat_of_zero_le (wf_u64 hn).1
  obtain ⟨a, rfl⟩ := Int.eq_ofNat_of_zero_le (wf_u8 ha).1
  obtain ⟨b, rfl⟩ := Int.eq_ofNat_of_zero_le (wf_u8 hb).1
  have hn2 := (wf_u64 hn).2
  have ha2 := (wf_u8 ha).2
  have hb2 := (wf_u8 hb).2
  refine ⟨K + 20, ?_⟩
  unfold weirkeeperlaw01_PackBytes.f
  have e1 : IntKind.u64.wrap (a : Int) = (a : Int) := u64_in (by omega) (by omega)
  have e2 : IntKind.u64.wrap (b : Int) = (b : Int) := u64_in (by omega) (by omega)
  have e3 : IntKind.u64.wrap (256 * (a : Int)) = 256 * (a : Int) := u64_in (by omega) (by omega)
  have e4 : IntKind.u64.wrap (256 * (a : Int) + (b : Int)) = 256 * (a : Int) + (b : Int) := u64_in (by omega) (by omega)
  have ta : (UInt8.ofNat a).toNat = a := by rw [UInt8.toNat_ofNat']; omega
  have tb : (UInt8.ofNat b).toNat = b := by rw [UInt8.toNat_ofNat']; omega
  have s1 : strOfNums [(a : Int), (b : Int)] = B [UInt8.ofNat a, UInt8.ofNat b] := rfl
  have s2 : strOfNums [(a : Int)] = B [UInt8.ofNat a] := rfl
  have n8 : numR n 8 = (B (be n 8), 0) := if_pos ⟨by decide, by decide, by show n < 18446744073709551616; omega⟩
  have n1 : numR a 1 = (B [UInt8.ofNat a], 0) := by
    have : numR a 1 = (B (be a 1), 0) := if_pos ⟨by decide, by decide, by show a < 256; omega⟩
    rw [this]
    have e : a / 256 ^ 0 % 256 = a := by simp; omega
    simp only [be, e]
  have t2 : takeR [UInt8.ofNat a, UInt8.ofNat b] 2 = (256 * (a : Int) + (b : Int), B [], 0) := by
    rw [takeR2, if_neg (by simp)]
    simp [val, ta, tb]
    omega
  rw [e1, e2, e3, e4, s1, s2, num_eq n (by omega) 8 (by omega) _ (by omega), Option.bind_some, num_eq a (by omega) 1 (by omega) _ (by omega), Option.bind_some,
    take_eq _ (by simp) 2 _ (by omega), Option.bind_some, n8, n1, t2, hK _ (by omega)]
  simp [B_size, be_length, B_toList]
end Go.Proofs.Ytgccimhdbphenaa.PlPackBytes
