/- What the document's answers for packing come to. -/
import Derived.Test.YthfjcplhjbaplaaAbG
namespace Go.Ab
open Go.Proofs
set_option linter.all false
set_option maxRecDepth 100000
set_option maxHeartbeats 4000000
theorem mul8 (a b : Nat) (hb : b < 256) (h : a * 256 + b < 18446744073709551616) : IntKind.u64.wrap (IntKind.u64.wrap ((a : Int) * 256) + IntKind.u64.wrap (b : Int)) = ((a * 256 + b : Nat) : Int) := by
  rw [u64_in (n := (a : Int) * 256) (by omega) (by omega), u64_in (n := (b : Int)) (by omega) (by omega), u64_in (by omega) (by omega)]; omega
theorem ref01_Take (l : List UInt8) (m : Nat) (h1 : 1 ≤ m) (h8 : m ≤ 8) : APure Try.prog 10 [sA l, iA m] (.tup [uA (rnum l m).1, sA (rnum l m).2.1, iA (if (rnum l m).2.2 = true then 2 else 0)]) := by
  refine i10 rfl (by simp) (W.go 200 ?_)
  have a1 : ¬ ((m : Int) < 1) := by omega
  have a2 : ¬ ((8 : Int) < m) := by omega
  unfold rnum
  by_cases c : l.length < m
  · simp (config := { contextual := true, maxSteps := 4000000 }) (disch := omega) only [go_sem, beq_self_eq_true, Nat.reduceBEq, ↓reduceIte, reduceCtorEq, Nat.reduceEqDiff, Nat.reduceAdd, Nat.reduceSub, Nat.reduceMul, Nat.reduceLT, Nat.reduceLeDiff, Int.reduceLT, Int.reduceLE, Int.reduceToNat, Int.reduceAdd, Int.reduceSub, Int.reduceMul, Int.reduceNeg, Int.reduceEq, a1, a2, c]
  · simp (config := { contextual := true, maxSteps := 4000000 }) (disch := omega) only [go_sem, beq_self_eq_true, Nat.reduceBEq, ↓reduceIte, reduceCtorEq, Nat.reduceEqDiff, Nat.reduceAdd, Nat.reduceSub, Nat.reduceMul, Nat.reduceLT, Nat.reduceLeDiff, Int.reduceLT, Int.reduceLE, Int.reduceToNat, Int.reduceAdd, Int.reduceSub, Int.reduceMul, Int.reduceNeg, Int.reduceEq, a1, a2, c]
    refine W.loopS (fun k : Nat => [(0, sA l), (1, iA m), (7, uA (val (l.take k))), (8, iA k)]) (fun _ => []) (fun k => k ≤ m) (fun k => m - k) 0 (Nat.zero_le _) rfl rfl ?_
    intro k hk
    refine W.go 200 ?_
    by_cases hm : k < m
    · have b1 := val_take_lt l k (by omega)
      have b2 := (l.getD k 0).toNat_lt
      have b3 : 256 ^ k * 256 ≤ 256 ^ 8 := by rw [← Nat.pow_succ]; exact Nat.pow_le_pow_right (by decide) (by omega)
      simp (config := { contextual := true, maxSteps := 4000000 }) (disch := omega) only [go_sem, beq_self_eq_true, Nat.reduceBEq, ↓reduceIte, reduceCtorEq, Nat.reduceEqDiff, Nat.reduceAdd, Nat.reduceSub, Nat.reduceMul, Nat.reduceLT, Nat.reduceLeDiff, Int.reduceLT, Int.reduceLE, Int.reduceToNat, Int.reduceAdd, Int.reduceSub, Int.reduceMul, Int.reduceNeg, Int.reduceEq, hm, mul8 _ _ b2 (show val (l.take k) * 256 + (l.getD k 0).toNat < 18446744073709551616 by omega)]
      refine ⟨k + 1, hm, by omega, .inl ?_, 0, rfl⟩
      rw [val_take_succ l k (by omega)]; rfl
    · obtain rfl : k = m := by omega
      simp (config := { contextual := true, maxSteps := 4000000 }) (disch := omega) only [go_sem, beq_self_eq_true, Nat.reduceBEq, ↓reduceIte, reduceCtorEq, Nat.reduceEqDiff, Nat.reduceAdd, Nat.reduceSub, Nat.reduceMul, Nat.reduceLT, Nat.reduceLeDiff, Int.reduceLT, Int.reduceLE, Int.reduceToNat, Int.reduceAdd, Int.reduceSub, Int.reduceMul, Int.reduceNeg, Int.reduceEq, hm, List.take_length]
theorem mulI (a b : Nat) : (a : Int) * 256 + (b : Int) = ((a * 256 + b : Nat) : Int) := by omega
theorem val_two (l : List UInt8) (h : 2 ≤ l.length) : val (l.take 2) = (l.getD 0 0).toNat * 256 + (l.getD 1 0).toNat := by
  match l with
  | a :: b :: r => simp [val]
  | [a] => simp at h
  | [] => simp at h
theorem ref01_TakeText (l : List UInt8) (hl : l.length ≤ 2 ^ 40) : APure Try.prog 55 [sA l] (.tup [sA (rtext l).1, sA (rtext l).2.1, iA (if (rtext l).2.2 = true then 2 else 0)]) := by
  refine i55 rfl (by simp) (W.go 200 ?_)
  by_cases c : l.length < 2
  · have e : rtext l = ([], [], true) := if_pos (.inl c)
    have c' : (l.length : Int) < 2 := by omega
    rw [e]
    simp (config := { contextual := true, maxSteps := 4000000 }) (disch := omega) only [go_sem, beq_self_eq_true, Nat.reduceBEq, ↓reduceIte, reduceCtorEq, Nat.reduceEqDiff, Nat.reduceAdd, Nat.reduceSub, Nat.reduceMul, Nat.reduceLT, Nat.reduceLeDiff, Int.reduceLT, Int.reduceLE, Int.reduceToNat, Int.reduceAdd, Int.reduceSub, Int.reduceMul, Int.reduceNeg, Int.reduceEq, c']
  · have c' : ¬ (l.length : Int) < 2 := by omega
    have hv := val_two l (by omega)
    have b1 := (l.getD 0 0).toNat_lt
    have b2 := (l.getD 1 0).toNat_lt
    have hv' : ((l.getD 0 0).toNat : Int) * 256 + ((l.getD 1 0).toNat : Int) = ((val (l.take 2) : Nat) : Int) := by omega
    have e1 : (2 + ((val (l.take 2) : Nat) : Int)).toNat = 2 + val (l.take 2) := by omega
    by_cases c2 : l.length < 2 + val (l.take 2)
    · have c2' : (l.length : Int) < 2 + ((val (l.take 2) : Nat) : Int) := by omega
      have e : rtext l = ([], [], true) := if_pos (.inr c2)
      rw [e]
      simp (config := { contextual := true, maxSteps := 4000000 }) (disch := omega) only [go_sem, beq_self_eq_true, Nat.reduceBEq, ↓reduceIte, reduceCtorEq, Nat.reduceEqDiff, Nat.reduceAdd, Nat.reduceSub, Nat.reduceMul, Nat.reduceLT, Nat.reduceLeDiff, Int.reduceLT, Int.reduceLE, Int.reduceToNat, Int.reduceAdd, Int.reduceSub, Int.reduceMul, Int.reduceNeg, Int.reduceEq, c', hv', c2']
    · have c2' : ¬ (l.length : Int) < 2 + ((val (l.take 2) : Nat) : Int) := by omega
      have e : rtext l = ((l.drop 2).take (val (l.take 2)), (l.drop 2).drop (val (l.take 2)), false) := if_neg (by omega)
      rw [e]
      simp (config := { contextual := true, maxSteps := 4000000 }) (disch := omega) only [go_sem, beq_self_eq_true, Nat.reduceBEq, ↓reduceIte, reduceCtorEq, Nat.reduceEqDiff, Nat.reduceAdd, Nat.reduceSub, Nat.reduceMul, Nat.reduceLT, Nat.reduceLeDiff, Int.reduceLT, Int.reduceLE, Int.reduceToNat, Int.reduceAdd, Int.reduceSub, Int.reduceMul, Int.reduceNeg, Int.reduceEq, c', hv', c2', e1]
      refine ⟨?_, ?_⟩
      · rw [List.drop_take]; congr 1; omega
      · rw [List.drop_drop, List.take_length]
theorem numP_of (n m : Nat) (h1 : 1 ≤ m) (h8 : m ≤ 8) (h : n < 256 ^ m) : numP n m = (be n m, 0) := if_pos ⟨by omega, by omega, by simpa using h⟩
theorem remI (n : Nat) (h : n < 18446744073709551616) : IntKind.u8.wrap (Int.tmod (n : Int) 256) = ((UInt8.ofNat (n % 256)).toNat : Int) := by
  rw [u8_wrap, tmod256, UInt8.toNat_ofNat']; omega
theorem be_div (n i s : Nat) : be (n / 256 ^ i) (s + 1) = be (n / 256 ^ (i + 1)) s ++ [UInt8.ofNat (n / 256 ^ i % 256)] := by
  rw [be_snoc, Nat.div_div_eq_div_mul, Nat.pow_succ]
theorem ref01_Num (n m : Nat) (h1 : 1 ≤ m) (h8 : m ≤ 8) (h : n < 256 ^ m) : APure Try.prog 56 [uA n, iA m] (.tup [sA (be n m), iA 0]) := by
  refine i56 rfl (by simp) (W.go 200 ?_)
  have a1 : ¬ ((m : Int) < 1) := by omega
  have a2 : ¬ ((8 : Int) < m) := by omega
  have hn : n < 18446744073709551616 := Nat.lt_of_lt_of_le h (show 256 ^ m ≤ 256 ^ 8 from Nat.pow_le_pow_right (by decide) h8)
  simp (config := { contextual := true, maxSteps := 4000000 }) (disch := omega) only [go_sem, beq_self_eq_true, Nat.reduceBEq, ↓reduceIte, reduceCtorEq, Nat.reduceEqDiff, Nat.reduceAdd, Nat.reduceSub, Nat.reduceMul, Nat.reduceLT, Nat.reduceLeDiff, Int.reduceLT, Int.reduceLE, Int.reduceToNat, Int.reduceAdd, Int.reduceSub, Int.reduceMul, Int.reduceNeg, Int.reduceEq, a1, a2]
  refine W.loopS (fun k : Nat => [(0, uA ((n / 256 ^ k : Nat))), (1, iA m), (6, sA (be n k)), (7, iA k)]) (fun _ => []) (fun k => k ≤ m) (fun k => m - k) 0 (Nat.zero_le _) (by simp [be]) rfl ?_
  intro k hk
  refine W.go 200 ?_
  have hq : n / 256 ^ k < 18446744073709551616 := Nat.lt_of_le_of_lt (Nat.div_le_self _ _) hn
  by_cases hm : k < m
  · simp (config := { contextual := true, maxSteps := 4000000 }) (disch := omega) only [go_sem, beq_self_eq_true, Nat.reduceBEq, ↓reduceIte, reduceCtorEq, Nat.reduceEqDiff, Nat.reduceAdd, Nat.reduceSub, Nat.reduceMul, Nat.reduceLT, Nat.reduceLeDiff, Int.reduceLT, Int.reduceLE, Int.reduceToNat, Int.reduceAdd, Int.reduceSub, Int.reduceMul, Int.reduceNeg, Int.reduceEq, hm, remI _ hq, tdiv256 _ hq, be_length, UInt8.ofNat_toNat]
    exact ⟨k + 1, hm, by omega, .inl (by rw [Nat.div_div_eq_div_mul, ← Nat.pow_succ]; rfl), 0, rfl⟩
  · obtain rfl : k = m := by omega
    have e0 : n / 256 ^ k = 0 := Nat.div_eq_of_lt h
    rw [e0]
    simp (config := { contextual := true, maxSteps := 4000000 }) (disch := omega) only [go_sem, beq_self_eq_true, Nat.reduceBEq, ↓reduceIte, reduceCtorEq, Nat.reduceEqDiff, Nat.reduceAdd, Nat.reduceSub, Nat.reduceMul, Nat.reduceLT, Nat.reduceLeDiff, Int.reduceLT, Int.reduceLE, Int.reduceToNat, Int.reduceAdd, Int.reduceSub, Int.reduceMul, Int.reduceNeg, Int.reduceEq, hm]
theorem ref01_Text (l : List UInt8) (hl : l.length ≤ 65535) : APure Try.prog 57 [sA l] (.tup [sA (tx l), iA 0]) := by
  refine i57 rfl (by simp) (W.go 200 ?_)
  have a1 : ¬ ((65535 : Int) < l.length) := by omega
  have q1 : IntKind.u8.wrap ((l.length : Int) / 256) = ((UInt8.ofNat (l.length / 256 % 256)).toNat : Int) := by rw [u8_wrap, UInt8.toNat_ofNat']; omega
  have q2 : IntKind.u8.wrap ((l.length : Int) % 256) = ((UInt8.ofNat (l.length % 256)).toNat : Int) := by rw [u8_wrap, UInt8.toNat_ofNat']; omega
  simp (config := { contextual := true, maxSteps := 4000000 }) (disch := omega) only [go_sem, beq_self_eq_true, Nat.reduceBEq, ↓reduceIte, reduceCtorEq, Nat.reduceEqDiff, Nat.reduceAdd, Nat.reduceSub, Nat.reduceMul, Nat.reduceLT, Nat.reduceLeDiff, Int.reduceLT, Int.reduceLE, Int.reduceToNat, Int.reduceAdd, Int.reduceSub, Int.reduceMul, Int.reduceNeg, Int.reduceEq, a1, q1, q2, UInt8.ofNat_toNat]
  simp [tx, be]
end Go.Ab
