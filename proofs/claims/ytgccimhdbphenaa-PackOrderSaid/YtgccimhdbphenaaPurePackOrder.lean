/- Of two numbers in as many bytes the lesser one has the lesser bytes, equal ones equal bytes; a refused one has none. -/
import Derived.Test.YtgccimhdbphenaaFlaw01PackOrder
import Derived.Test.YtgccimhdbphenaaPlAwake01
namespace Go.Proofs.Ytgccimhdbphenaa.PlPackOrder
open Go.RowKit Go.Proofs.Ytgccimhdbphenaa.F Go.Proofs.YtgccimhdbphenaaW.PrintWords Go.Proofs.YtgccimhdbphenaaW.PrintLast Go.Proofs.YtgccimhdbphenaaW.PrintMore Go.Proofs.Ytgccimhdbphenaa.Pl
set_option linter.unusedVariables false
set_option linter.unusedSimpArgs false


theorem bytesLess_be (s : Nat) : ∀ n m : Nat, Go.Op.bytesLess (be n s) (be m s) = decide (n % 256 ^ s < m % 256 ^ s) := by
  induction s with
  | zero => intro n m; simp [be, Go.Op.bytesLess, Nat.mod_one]
  | succ s ih =>
    intro n m
    have hp : 0 < 256 ^ s := Nat.pow_pos (by decide)
    have en : n % 256 ^ (s + 1) = 256 ^ s * (n / 256 ^ s % 256) + n % 256 ^ s := by rw [Nat.pow_succ, Nat.mod_mul]; omega
    have em : m % 256 ^ (s + 1) = 256 ^ s * (m / 256 ^ s % 256) + m % 256 ^ s := by rw [Nat.pow_succ, Nat.mod_mul]; omega
    have ln : n % 256 ^ s < 256 ^ s := Nat.mod_lt _ hp
    have lm : m % 256 ^ s < 256 ^ s := Nat.mod_lt _ hp
    rw [be, be, Go.Op.bytesLess, ih, en, em]
    have ha : n / 256 ^ s % 256 < 256 := Nat.mod_lt _ (by decide)
    have hb : m / 256 ^ s % 256 < 256 := Nat.mod_lt _ (by decide)
    clear en em ih
    generalize n / 256 ^ s % 256 = a at *
    generalize m / 256 ^ s % 256 = b at *
    generalize n % 256 ^ s = x at *
    generalize m % 256 ^ s = y at *
    generalize 256 ^ s = p at *
    have ta : (UInt8.ofNat a).toNat = a := by rw [UInt8.toNat_ofNat']; omega
    have tb : (UInt8.ofNat b).toNat = b := by rw [UInt8.toNat_ofNat']; omega
    have l1 : decide (UInt8.ofNat a < UInt8.ofNat b) = decide (a < b) := by
      rw [Bool.eq_iff_iff, decide_eq_true_iff, decide_eq_true_iff, UInt8.lt_iff_toNat_lt, ta, tb]
    have l2 : (UInt8.ofNat a == UInt8.ofNat b) = decide (a = b) := by
      rw [Bool.eq_iff_iff, beq_iff_eq, decide_eq_true_iff]
      exact ⟨fun h => by have := congrArg UInt8.toNat h; rwa [ta, tb] at this, fun h => by rw [h]⟩
    rw [l1, l2]
    rcases Nat.lt_trichotomy a b with h | h | h
    · have h1 := Nat.mul_le_mul_left p (show a + 1 ≤ b from h)
      rw [Nat.mul_add] at h1
      rw [decide_eq_true h, decide_eq_true (show p * a + x < p * b + y by omega)]
      rfl
    · subst h
      rw [decide_eq_false (show ¬ a < a by omega), decide_eq_true (show a = a from rfl), Bool.false_or, Bool.true_and]
      congr 1
      rw [eq_iff_iff]
      omega
    · have h1 := Nat.mul_le_mul_left p (show b + 1 ≤ a from h)
      rw [Nat.mul_add] at h1
      rw [decide_eq_false (show ¬ a < b by omega), decide_eq_false (show ¬ a = b by omega), decide_eq_false (show ¬ p * a + x < p * b + y by omega)]
      rfl

theorem pure : ∀ (a0 : Int) (a1 : Int) (a2 : Int), (Lit.int .u64 a0).wf = true → (Lit.int .u64 a1).wf = true → (Lit.int .i64 a2).wf = true → ∃ k, F.weirkeeperlaw01_PackOrder.f k a0 a1 a2 = some true := by
  intro n m size hn hm hz
  obtain ⟨K, hK⟩ := awake_holds
  obtain ⟨n, rfl⟩ := Int.eq_ofNat_of_zero_le (wf_u64 hn).1
  obtain ⟨m, rfl⟩ := Int.eq_ofNat_of_zero_le (wf_u64 hm).1
  have hn2 := (wf_u64 hn).2
  have hm2 := (wf_u64 hm).2
  have hz2 := wf_i64 hz
  refine ⟨K + 20, ?_⟩
  unfold weirkeeperlaw01_PackOrder.f
  rw [num_eq n (by omega) size hz2 _ (by omega), Option.bind_some, num_eq m (by omega) size hz2 _ (by omega), Option.bind_some]
  have no : ∀ n : Nat, ¬(1 ≤ size ∧ size ≤ 8 ∧ n < 256 ^ size.toNat) → numR n size = (B [], 1) := fun n h => if_neg h
  have yes : ∀ n : Nat, (1 ≤ size ∧ size ≤ 8 ∧ n < 256 ^ size.toNat) → numR n size = (B (be n size.toNat), 0) := fun n h => if_pos h
  simp only [weirkeeperlaw01_PackOrder.j0, hK (K + 19) (by omega), Option.bind_some]
  by_cases h1 : 1 ≤ size ∧ size ≤ 8 ∧ n < 256 ^ size.toNat
  · rw [yes n h1]
    by_cases h2 : 1 ≤ size ∧ size ≤ 8 ∧ m < 256 ^ size.toNat
    · rw [yes m h2]
      simp only [B_toList, bytesLess_be, Nat.mod_eq_of_lt h1.2.2, Nat.mod_eq_of_lt h2.2.2]
      have hlt : (decide (n < m) == decide ((n : Int) < (m : Int))) = true := by simp
      have heq : ((be n size.toNat == be m size.toNat) == ((n : Int) == (m : Int))) = true := by
        by_cases e : n = m
        · subst e; simp
        · have h3 : be n size.toNat ≠ be m size.toNat := fun h => e (be_inj h1.2.2 h2.2.2 h)
          have h4 : ((n : Int) == (m : Int)) = false := by rw [beq_eq_false_iff_ne]; omega
          rw [h4]
          simp [h3]
      rw [hlt, heq]
      simp
    · rw [no m h2]
      simp [B_toList]
  · rw [no n h1]
    by_cases h2 : 1 ≤ size ∧ size ≤ 8 ∧ m < 256 ^ size.toNat
    · rw [yes m h2]
      simp [B_toList]
    · rw [no m h2]
      simp [B_toList]
end Go.Proofs.Ytgccimhdbphenaa.PlPackOrder
