/- A text of 65,532 to 65,539 bytes is refused just if it has more than 65,535; else it is taken back with what stands behind it. -/
import Derived.Test.YtgccimhdbphenaaFlaw01PackLong
import Derived.Test.YtgccimhdbphenaaPlAwake01
namespace Go.Proofs.Ytgccimhdbphenaa.PlPackLong
open Go.RowKit Go.Proofs.Ytgccimhdbphenaa.F Go.Proofs.YtgccimhdbphenaaW.PrintWords Go.Proofs.YtgccimhdbphenaaW.PrintLast Go.Proofs.YtgccimhdbphenaaW.PrintMore Go.Proofs.Ytgccimhdbphenaa.Pl
set_option linter.unusedVariables false
set_option linter.unusedSimpArgs false


theorem pure : ∀ (a0 : Int) (a1 : Bool), (Lit.int .u16 a0).wf = true → ∃ k, F.weirkeeperlaw01_PackLong.f k a0 a1 = some true := by
  intro n more hn
  obtain ⟨K, hK⟩ := awake_holds
  obtain ⟨n, rfl⟩ := Int.eq_ofNat_of_zero_le (wf_u16 hn).1
  have hn2 := (wf_u16 hn).2
  refine ⟨K + 20, ?_⟩
  unfold weirkeeperlaw01_PackLong.f
  have e0 : Int.tmod (n : Int) 4 = ((n % 4 : Nat) : Int) := by rw [Int.tmod_eq_emod_of_nonneg (by omega)]; omega
  have e1 : wrap64 ((n % 4 : Nat) : Int) = ((n % 4 : Nat) : Int) := wrap64_in (by omega) (by omega)
  have hz : ∀ m : Nat, strOfNums (List.replicate m 0) = B (List.replicate m 0) := by
    intro m
    unfold strOfNums B
    simp
  rw [e0, e1]
  cases more with
  | true =>
    have e2 : wrap64 (65536 + ((n % 4 : Nat) : Int)) = ((65536 + n % 4 : Nat) : Int) := by rw [wrap64_in (by omega) (by omega)]; omega
    simp only [weirkeeperlaw01_PackLong.j0]
    have ht : textR (List.replicate (65536 + n % 4) 0) = (B [], 1) := if_neg (by rw [List.length_replicate]; omega)
    rw [if_pos trivial, e2, if_pos (by omega), Int.toNat_natCast, if_pos (by omega), Option.bind_some, hz, text_eq _ (by rw [List.length_replicate]; omega) _ (by omega), Option.bind_some, ht, hK _ (by omega)]
    simp [B_toList]
  | false =>
    have e2 : wrap64 (65535 - ((n % 4 : Nat) : Int)) = ((65535 - n % 4 : Nat) : Int) := by rw [wrap64_in (by omega) (by omega)]; omega
    have e3 : wrap64 (((65535 - n % 4 : Nat) : Int) + 2) = ((65537 - n % 4 : Nat) : Int) := by rw [wrap64_in (by omega) (by omega)]; omega
    simp only [weirkeeperlaw01_PackLong.j0]
    rw [if_neg (by decide), e2, e3, if_pos (by omega), Int.toNat_natCast, if_pos (by omega), Option.bind_some, hz]
    have hlen : (List.replicate (65535 - n % 4) (0 : UInt8)).length = 65535 - n % 4 := List.length_replicate
    generalize List.replicate (65535 - n % 4) (0 : UInt8) = t at hlen
    have ht : textR t = (B (be t.length 2 ++ t), 0) := if_pos (by omega)
    have hx : (⟨#[120]⟩ : ByteArray) = B [120] := rfl
    rw [text_eq t (by omega) _ (by omega), Option.bind_some, ht]
    simp only
    rw [if_neg (by decide), B_size, List.length_append, be_length, if_pos (by omega), hx, B_append, takeText_eq _ (by simp [be_length]; omega) _ (by omega), Option.bind_some, takeText_of t [120] (by omega), hK _ (by omega)]
    simp only [B_toList]
    rw [if_pos trivial, if_pos trivial, if_pos (by omega), if_pos trivial, if_pos trivial]
    rfl
end Go.Proofs.Ytgccimhdbphenaa.PlPackLong
