/- What the functions of package pack come to. -/
import Derived.Test.YthfjcplhjbaplaaFlatTy
namespace Go.Ab
open Go.Proofs
set_option linter.all false
set_option maxRecDepth 100000
set_option maxHeartbeats 4000000
theorem pack_fits (n : Int) : APure Try.prog 60 [iA n] (boolA (decide (1 ≤ n ∧ n ≤ 8))) := by
  refine i60 rfl (by simp) (W.go 60 ?_)
  simp (config := { contextual := true, maxSteps := 4000000 }) (disch := omega) only [go_sem, beq_self_eq_true, Nat.reduceBEq, ↓reduceIte, reduceCtorEq, Nat.reduceEqDiff, Nat.reduceAdd, Nat.reduceSub, Nat.reduceMul, Nat.reduceLT, Nat.reduceLeDiff, Int.reduceLT, Int.reduceLE, Int.reduceToNat, Int.reduceAdd, Int.reduceSub, Int.reduceMul, Int.reduceNeg, Int.reduceEq]
/-- what pack.Take answers -/
def takeP (l : List UInt8) (size : Int) : Nat × List UInt8 × Int :=
  if 1 ≤ size ∧ size ≤ 8 then (if l.length < size.toNat then (0, [], 2) else (val (l.take size.toNat), l.drop size.toNat, 0)) else (0, [], 1)
theorem pack_Take (l : List UInt8) (n : Int) : APure Try.prog 52 [sA l, iA n] (.tup [uA (takeP l n).1, sA (takeP l n).2.1, iA (takeP l n).2.2]) := by
  refine i52 rfl (by simp) (W.go 60 ?_)
  simp (config := { contextual := true, maxSteps := 4000000 }) (disch := omega) only [go_sem, beq_self_eq_true, Nat.reduceBEq, ↓reduceIte, reduceCtorEq, Nat.reduceEqDiff, Nat.reduceAdd, Nat.reduceSub, Nat.reduceMul, Nat.reduceLT, Nat.reduceLeDiff, Int.reduceLT, Int.reduceLE, Int.reduceToNat, Int.reduceAdd, Int.reduceSub, Int.reduceMul, Int.reduceNeg, Int.reduceEq]
  refine CallG.pure (pack_fits n) (W.go 200 ?_)
  simp (config := { contextual := true, maxSteps := 4000000 }) (disch := omega) only [go_sem, beq_self_eq_true, Nat.reduceBEq, ↓reduceIte, reduceCtorEq, Nat.reduceEqDiff, Nat.reduceAdd, Nat.reduceSub, Nat.reduceMul, Nat.reduceLT, Nat.reduceLeDiff, Int.reduceLT, Int.reduceLE, Int.reduceToNat, Int.reduceAdd, Int.reduceSub, Int.reduceMul, Int.reduceNeg, Int.reduceEq]
  refine ⟨fun h => ⟨fun h' => ?_, fun h' => ?_⟩, fun h => ?_⟩
  · unfold takeP; rw [if_pos h, if_pos (by omega)]; exact ⟨rfl, rfl, rfl⟩
  · obtain ⟨m, rfl⟩ := Int.eq_ofNat_of_zero_le (show 0 ≤ n by omega)
    refine W.loopS (fun k : Nat => [(0, sA l), (1, iA m), (7, uA (val (l.take k))), (18, iA m), (19, iA k)]) (fun _ => []) (fun k => k ≤ m) (fun k => m - k) 0 (Nat.zero_le _) rfl rfl ?_
    intro k hk
    refine W.go 200 ?_
    simp (config := { contextual := true, maxSteps := 4000000 }) (disch := omega) only [go_sem, beq_self_eq_true, Nat.reduceBEq, ↓reduceIte, reduceCtorEq, Nat.reduceEqDiff, Nat.reduceAdd, Nat.reduceSub, Nat.reduceMul, Nat.reduceLT, Nat.reduceLeDiff, Int.reduceLT, Int.reduceLE, Int.reduceToNat, Int.reduceAdd, Int.reduceSub, Int.reduceMul, Int.reduceNeg, Int.reduceEq]
    refine ⟨fun hm => ?_, fun hm => ?_⟩
    · have h1 := val_take_lt l k (by omega)
      have h2 := (l.getD k 0).toNat_lt
      have h3 : 256 ^ k * 256 ≤ 256 ^ 8 := by rw [← Nat.pow_succ]; exact Nat.pow_le_pow_right (by decide) (by omega)
      refine ⟨k + 1, hm, by omega, .inl ?_, 0, rfl⟩
      rw [or8 _ _ (by omega) (by omega), val_take_succ l k (by omega)]; rfl
    · obtain rfl : k = m := by omega
      unfold takeP
      rw [if_pos h, if_neg (by omega), Int.toNat_natCast, List.take_length]
      exact ⟨rfl, rfl, rfl⟩
  · unfold takeP; rw [if_neg h]; exact ⟨rfl, rfl, rfl⟩
theorem takeP_two (l : List UInt8) : takeP l 2 = if l.length < 2 then (0, [], 2) else (val (l.take 2), l.drop 2, 0) := rfl
/-- what pack.TakeText answers -/
def takeTextP (l : List UInt8) : List UInt8 × List UInt8 × Int :=
  if l.length < 2 ∨ l.length < 2 + val (l.take 2) then ([], [], 2) else ((l.drop 2).take (val (l.take 2)), (l.drop 2).drop (val (l.take 2)), 0)
theorem pack_TakeText (l : List UInt8) (hl : l.length ≤ 2 ^ 40) : APure Try.prog 53 [sA l] (.tup [sA (takeTextP l).1, sA (takeTextP l).2.1, iA (takeTextP l).2.2]) := by
  refine i53 rfl (by simp) (W.go 60 ?_)
  simp (config := { contextual := true, maxSteps := 4000000 }) (disch := omega) only [go_sem, beq_self_eq_true, Nat.reduceBEq, ↓reduceIte, reduceCtorEq, Nat.reduceEqDiff, Nat.reduceAdd, Nat.reduceSub, Nat.reduceMul, Nat.reduceLT, Nat.reduceLeDiff, Int.reduceLT, Int.reduceLE, Int.reduceToNat, Int.reduceAdd, Int.reduceSub, Int.reduceMul, Int.reduceNeg, Int.reduceEq]
  refine CallG.pure (pack_Take l 2) (W.go 200 ?_)
  rw [takeP_two]
  by_cases c : l.length < 2
  · simp (config := { contextual := true, maxSteps := 4000000 }) (disch := omega) only [go_sem, beq_self_eq_true, Nat.reduceBEq, ↓reduceIte, reduceCtorEq, Nat.reduceEqDiff, Nat.reduceAdd, Nat.reduceSub, Nat.reduceMul, Nat.reduceLT, Nat.reduceLeDiff, Int.reduceLT, Int.reduceLE, Int.reduceToNat, Int.reduceAdd, Int.reduceSub, Int.reduceMul, Int.reduceNeg, Int.reduceEq, c]
    unfold takeTextP; rw [if_pos (.inl c)]; exact ⟨rfl, rfl, rfl⟩
  · have hw : IntKind.u64.wrap ((l.length - 2 : Nat) : Int) = ((l.length - 2 : Nat) : Int) := u64_in (by omega) (by omega)
    simp (config := { contextual := true, maxSteps := 4000000 }) (disch := omega) only [go_sem, beq_self_eq_true, Nat.reduceBEq, ↓reduceIte, reduceCtorEq, Nat.reduceEqDiff, Nat.reduceAdd, Nat.reduceSub, Nat.reduceMul, Nat.reduceLT, Nat.reduceLeDiff, Int.reduceLT, Int.reduceLE, Int.reduceToNat, Int.reduceAdd, Int.reduceSub, Int.reduceMul, Int.reduceNeg, Int.reduceEq, c, List.length_drop, hw]
    refine ⟨fun h => ?_, fun h => ?_⟩
    · unfold takeTextP; rw [if_pos (by omega)]; exact ⟨rfl, rfl, rfl⟩
    · unfold takeTextP; rw [if_neg (by omega)]
      refine ⟨rfl, ?_, rfl⟩
      rw [List.take_of_length_le (l := l.drop 2) (by simp)]
/-- what pack.Num answers -/
def numP (n : Nat) (size : Int) : List UInt8 × Int := if 1 ≤ size ∧ size ≤ 8 ∧ n < 256 ^ size.toNat then (be n size.toNat, 0) else ([], 1)
/-- What the bytes are, once i of them are written. -/
def numL (n m i : Nat) : List AV := List.replicate (m - i) (u8A 0) ++ (be n i).map u8A
theorem numL_len (n m i : Nat) (h : i ≤ m) : (numL n m i).length = m := by simp [numL, be_length]; omega
theorem numL_get (n m i : Nat) (h : i < m) : (numL n m i)[0 + ((m : Int) - 1 - i).toNat]? = some (u8A 0) := by
  have e : 0 + ((m : Int) - 1 - i).toNat = m - 1 - i := by omega
  rw [e, numL, List.getElem?_append_left (by simp; omega), List.getElem?_replicate, if_pos (by omega)]
theorem numL_set (n m i : Nat) (h : i < m) (h8 : m ≤ 8) : (numL n m i).set (0 + ((m : Int) - 1 - i).toNat) (.v (.int .u8 (IntKind.u8.wrap ((n : Int).fdiv (2 ^ min (8 * (i : Int)).toNat 64))))) = numL n m (i + 1) := by
  have e : 0 + ((m : Int) - 1 - i).toNat = m - 1 - i := by omega
  have e2 : m - i = (m - 1 - i) + 1 := by omega
  have e3 : m - (i + 1) = m - 1 - i := by omega
  rw [e, numL, numL, e2, e3, List.replicate_succ', List.append_assoc, List.singleton_append, set_mid _ _ _ _ (m - 1 - i) (by simp), fdiv256 n i (by omega), be]
  simp only [List.map_cons, UInt8.toNat_ofNat']
  congr 4
  generalize n / 256 ^ i = q
  rw [u8_wrap, UInt8.toNat_ofNat']; omega
theorem pack_Num (n : Nat) (hn : n < 18446744073709551616) (size : Int) : APure Try.prog 58 [uA n, iA size] (.tup [sA (numP n size).1, iA (numP n size).2]) := by
  refine i58 rfl (by simp) (W.go 60 ?_)
  simp (config := { contextual := true, maxSteps := 4000000 }) (disch := omega) only [go_sem, beq_self_eq_true, Nat.reduceBEq, ↓reduceIte, reduceCtorEq, Nat.reduceEqDiff, Nat.reduceAdd, Nat.reduceSub, Nat.reduceMul, Nat.reduceLT, Nat.reduceLeDiff, Int.reduceLT, Int.reduceLE, Int.reduceToNat, Int.reduceAdd, Int.reduceSub, Int.reduceMul, Int.reduceNeg, Int.reduceEq]
  refine CallG.pure (pack_fits size) (W.go 200 ?_)
  by_cases c : 1 ≤ size ∧ size ≤ 8
  · obtain ⟨m, rfl⟩ := Int.eq_ofNat_of_zero_le (show 0 ≤ size by omega)
    have hf := fdiv256 n m (by omega)
    by_cases c2 : n < 256 ^ m
    · rw [Nat.div_eq_of_lt c2] at hf
      have e : numP n m = (be n m, 0) := if_pos ⟨c.1, c.2, c2⟩
      rw [e]
      by_cases c8 : (m : Int) < 8
      all_goals
        simp (config := { contextual := true, maxSteps := 4000000 }) (disch := omega) only [go_sem, beq_self_eq_true, Nat.reduceBEq, ↓reduceIte, reduceCtorEq, Nat.reduceEqDiff, Nat.reduceAdd, Nat.reduceSub, Nat.reduceMul, Nat.reduceLT, Nat.reduceLeDiff, Int.reduceLT, Int.reduceLE, Int.reduceToNat, Int.reduceAdd, Int.reduceSub, Int.reduceMul, Int.reduceNeg, Int.reduceEq, c, c8, hf]
        intro b
        refine W.loopS (fun i : Nat => [(0, uA n), (1, iA m), (6, .own 0 1 (some b) 0 m), (25, iA m), (26, iA i)]) (fun i => [⟨true, some b, 1, 5, numL n m i⟩]) (fun i => i ≤ m) (fun i => m - i) 0 (Nat.zero_le _) rfl (by simp [be, numL]) ?_
        intro i hi
        refine W.go 200 ?_
        by_cases hm : i < m
        · simp (config := { contextual := true, maxSteps := 4000000 }) (disch := omega) only [go_sem, beq_self_eq_true, Nat.reduceBEq, ↓reduceIte, reduceCtorEq, Nat.reduceEqDiff, Nat.reduceAdd, Nat.reduceSub, Nat.reduceMul, Nat.reduceLT, Nat.reduceLeDiff, Int.reduceLT, Int.reduceLE, Int.reduceToNat, Int.reduceAdd, Int.reduceSub, Int.reduceMul, Int.reduceNeg, Int.reduceEq, hm, numL_get n m i hm, numL_set n m i hm (by omega)]
          exact ⟨i + 1, hm, by omega, .inl rfl, 1, rfl⟩
        · obtain rfl : i = m := by omega
          have hs : strOf ((numL n i i).take i) = some (be n i) := by rw [List.take_of_length_le (by rw [numL_len n i i (by omega)]; omega), numL]; simp [strOf_map]
          simp (config := { contextual := true, maxSteps := 4000000 }) (disch := omega) only [go_sem, beq_self_eq_true, Nat.reduceBEq, ↓reduceIte, reduceCtorEq, Nat.reduceEqDiff, Nat.reduceAdd, Nat.reduceSub, Nat.reduceMul, Nat.reduceLT, Nat.reduceLeDiff, Int.reduceLT, Int.reduceLE, Int.reduceToNat, Int.reduceAdd, Int.reduceSub, Int.reduceMul, Int.reduceNeg, Int.reduceEq, numL_len n i i (by omega), hs]
    · have e : numP n m = ([], 1) := if_neg fun h => c2 h.2.2
      rw [e]
      have hp : 0 < n / 256 ^ m := Nat.div_pos (by omega) (Nat.pow_pos (by decide))
      have h8 : (m : Int) < 8 := by
        rcases Nat.lt_or_ge m 8 with h | h
        · omega
        · obtain rfl : m = 8 := by omega
          exact absurd hn c2
      have hp' : 0 < ((n / 256 ^ m : Nat) : Int) := by omega
      simp (config := { contextual := true, maxSteps := 4000000 }) (disch := omega) only [go_sem, beq_self_eq_true, Nat.reduceBEq, ↓reduceIte, reduceCtorEq, Nat.reduceEqDiff, Nat.reduceAdd, Nat.reduceSub, Nat.reduceMul, Nat.reduceLT, Nat.reduceLeDiff, Int.reduceLT, Int.reduceLE, Int.reduceToNat, Int.reduceAdd, Int.reduceSub, Int.reduceMul, Int.reduceNeg, Int.reduceEq, c, h8, hf, hp, hp']
  · have e : numP n size = ([], 1) := if_neg fun h => c ⟨h.1, h.2.1⟩
    simp (config := { contextual := true, maxSteps := 4000000 }) (disch := omega) only [go_sem, beq_self_eq_true, Nat.reduceBEq, ↓reduceIte, reduceCtorEq, Nat.reduceEqDiff, Nat.reduceAdd, Nat.reduceSub, Nat.reduceMul, Nat.reduceLT, Nat.reduceLeDiff, Int.reduceLT, Int.reduceLE, Int.reduceToNat, Int.reduceAdd, Int.reduceSub, Int.reduceMul, Int.reduceNeg, Int.reduceEq, c, e]
theorem numP_two (n : Nat) : numP n 2 = if n ≤ 65535 then (be n 2, 0) else ([], 1) := by
  unfold numP
  have e2 : (2 : Int).toNat = 2 := rfl
  rw [e2]
  by_cases h : n ≤ 65535
  · rw [if_pos h]; exact if_pos ⟨by decide, by decide, by show n < 65536; omega⟩
  · rw [if_neg h]; exact if_neg fun hh => by have := hh.2.2; change n < 65536 at this; omega
/-- what pack.Text answers -/
def textP (l : List UInt8) : List UInt8 × Int := if l.length ≤ 65535 then (be l.length 2 ++ l, 0) else ([], 1)
theorem pack_Text (l : List UInt8) (hl : l.length ≤ 2 ^ 40) : APure Try.prog 59 [sA l] (.tup [sA (textP l).1, iA (textP l).2]) := by
  refine i59 rfl (by simp) (W.go 60 ?_)
  have hw : IntKind.u64.wrap (l.length : Int) = (l.length : Int) := u64_in (by omega) (by omega)
  simp (config := { contextual := true, maxSteps := 4000000 }) (disch := omega) only [go_sem, beq_self_eq_true, Nat.reduceBEq, ↓reduceIte, reduceCtorEq, Nat.reduceEqDiff, Nat.reduceAdd, Nat.reduceSub, Nat.reduceMul, Nat.reduceLT, Nat.reduceLeDiff, Int.reduceLT, Int.reduceLE, Int.reduceToNat, Int.reduceAdd, Int.reduceSub, Int.reduceMul, Int.reduceNeg, Int.reduceEq, hw]
  refine CallG.pure (pack_Num l.length (by omega) 2) (W.go 200 ?_)
  rw [numP_two]; unfold textP
  by_cases h : l.length ≤ 65535
  · simp (config := { contextual := true, maxSteps := 4000000 }) (disch := omega) only [go_sem, beq_self_eq_true, Nat.reduceBEq, ↓reduceIte, reduceCtorEq, Nat.reduceEqDiff, Nat.reduceAdd, Nat.reduceSub, Nat.reduceMul, Nat.reduceLT, Nat.reduceLeDiff, Int.reduceLT, Int.reduceLE, Int.reduceToNat, Int.reduceAdd, Int.reduceSub, Int.reduceMul, Int.reduceNeg, Int.reduceEq, h, be_length]
  · simp (config := { contextual := true, maxSteps := 4000000 }) (disch := omega) only [go_sem, beq_self_eq_true, Nat.reduceBEq, ↓reduceIte, reduceCtorEq, Nat.reduceEqDiff, Nat.reduceAdd, Nat.reduceSub, Nat.reduceMul, Nat.reduceLT, Nat.reduceLeDiff, Int.reduceLT, Int.reduceLE, Int.reduceToNat, Int.reduceAdd, Int.reduceSub, Int.reduceMul, Int.reduceNeg, Int.reduceEq, h]
end Go.Ab
