/- What the document's answers for flat things come to. -/
import Derived.Test.YthfjcplhjbaplaaAbR
namespace Go.Ab
open Go.Proofs
set_option linter.all false
set_option maxRecDepth 100000
set_option maxHeartbeats 4000000
/-- so many texts that stand in a text, each behind so many bytes -/
def tx13 : List Nat → List UInt8 → Option (List (List UInt8))
  | [], _ => some []
  | a :: r, s => if s.length < a then none else if (rtext (s.drop a)).2.2 = true then none else (tx13 r (rtext (s.drop a)).2.1).map ((rtext (s.drop a)).1 :: ·)
def tx13R (o : Option (List (List UInt8))) : AV := match o with
  | some l => .tup [.sl 1 (l.map sA), boolA true]
  | none => .tup [.sl 1 [], boolA false]
theorem ref13_Texts (s0 : List UInt8) (a : List Nat) (hs : s0.length ≤ 2 ^ 40) (ha : a.length ≤ 2 ^ 40) : APure Try.prog 34 [sA s0, .sl 1 (a.map fun n => iA (n : Nat))] (tx13R (tx13 a s0)) := by
  refine i34 rfl (by simp) (W.go 200 ?_)
  simp (config := { contextual := true, maxSteps := 4000000 }) (disch := omega) only [go_sem, beq_self_eq_true, Nat.reduceBEq, ↓reduceIte, reduceCtorEq, Nat.reduceEqDiff, Nat.reduceAdd, Nat.reduceSub, Nat.reduceMul, Nat.reduceLT, Nat.reduceLeDiff, Int.reduceLT, Int.reduceLE, Int.reduceToNat, Int.reduceAdd, Int.reduceSub, Int.reduceMul, Int.reduceNeg, Int.reduceEq]
  refine W.virt 6 1 9 rfl ?_
  simp (config := { contextual := true, maxSteps := 4000000 }) (disch := omega) only [go_sem, beq_self_eq_true, Nat.reduceBEq, ↓reduceIte, reduceCtorEq, Nat.reduceEqDiff, Nat.reduceAdd, Nat.reduceSub, Nat.reduceMul, Nat.reduceLT, Nat.reduceLeDiff, Int.reduceLT, Int.reduceLE, Int.reduceToNat, Int.reduceAdd, Int.reduceSub, Int.reduceMul, Int.reduceNeg, Int.reduceEq]
  refine W.loopS (fun x : Nat × List UInt8 × List (List UInt8) × Option Nat => [(0, sA x.2.1), (1, .sl 1 (a.map fun n => iA (n : Nat))), (6, .own 0 1 x.2.2.2 0 x.2.2.1.length), (7, iA x.1)])
    (fun x => [⟨true, x.2.2.2, 1, 9, x.2.2.1.map sA⟩])
    (fun x => x.1 ≤ a.length ∧ x.2.2.1.length = x.1 ∧ x.2.1.length ≤ 2 ^ 40 ∧ tx13 a s0 = (tx13 (a.drop x.1) x.2.1).map (x.2.2.1 ++ ·)) (fun x => a.length - x.1)
    (0, s0, [], none) ⟨Nat.zero_le _, rfl, hs, by cases h : tx13 a s0 <;> simp [h]⟩ rfl rfl ?_
  rintro ⟨i, s, out, o⟩ ⟨h1, h2, h3, h4⟩
  simp only at h1 h2 h3 h4
  refine W.go 200 ?_
  rw [h4]
  clear h4
  by_cases hi : i < a.length
  · obtain ⟨n, hn⟩ : ∃ n, a[i]? = some n := ⟨_, List.getElem?_eq_getElem hi⟩
    have hd : a.drop i = n :: a.drop (i + 1) := by
      rw [List.drop_eq_getElem_cons hi]; congr 1; rw [List.getElem?_eq_getElem hi] at hn; exact Option.some.inj hn
    rw [hd, tx13]
    by_cases c : s.length < n
    · rw [if_pos c]
      simp (config := { contextual := true, maxSteps := 4000000 }) (disch := omega) only [go_sem, beq_self_eq_true, Nat.reduceBEq, ↓reduceIte, reduceCtorEq, Nat.reduceEqDiff, Nat.reduceAdd, Nat.reduceSub, Nat.reduceMul, Nat.reduceLT, Nat.reduceLeDiff, Int.reduceLT, Int.reduceLE, Int.reduceToNat, Int.reduceAdd, Int.reduceSub, Int.reduceMul, Int.reduceNeg, Int.reduceEq, hi, hn, c, tx13R]
    · rw [if_neg c]
      simp (config := { contextual := true, maxSteps := 4000000 }) (disch := omega) only [go_sem, beq_self_eq_true, Nat.reduceBEq, ↓reduceIte, reduceCtorEq, Nat.reduceEqDiff, Nat.reduceAdd, Nat.reduceSub, Nat.reduceMul, Nat.reduceLT, Nat.reduceLeDiff, Int.reduceLT, Int.reduceLE, Int.reduceToNat, Int.reduceAdd, Int.reduceSub, Int.reduceMul, Int.reduceNeg, Int.reduceEq, hi, hn, c]
      have ht := rtext_le (s.drop n)
      have hdl : (s.drop n).length ≤ 2 ^ 40 := by rw [List.length_drop]; omega
      rw [show List.drop n (List.take s.length s) = s.drop n by rw [List.take_length]]
      refine CallG.pure (ref01_TakeText (s.drop n) hdl) (W.go 200 ?_)
      generalize hq : rtext (s.drop n) = q at ht
      obtain ⟨t, r, bad⟩ := q
      simp only at ht
      have hr : r.length ≤ 2 ^ 40 := by omega
      clear ht hdl hq
      cases bad with
      | true => simp (config := { contextual := true, maxSteps := 4000000 }) (disch := omega) only [go_sem, beq_self_eq_true, Nat.reduceBEq, ↓reduceIte, reduceCtorEq, Nat.reduceEqDiff, Nat.reduceAdd, Nat.reduceSub, Nat.reduceMul, Nat.reduceLT, Nat.reduceLeDiff, Int.reduceLT, Int.reduceLE, Int.reduceToNat, Int.reduceAdd, Int.reduceSub, Int.reduceMul, Int.reduceNeg, Int.reduceEq, tx13R]
      | false =>
        simp (config := { contextual := true, maxSteps := 4000000 }) (disch := omega) only [go_sem, beq_self_eq_true, Nat.reduceBEq, ↓reduceIte, reduceCtorEq, Nat.reduceEqDiff, Nat.reduceAdd, Nat.reduceSub, Nat.reduceMul, Nat.reduceLT, Nat.reduceLeDiff, Int.reduceLT, Int.reduceLE, Int.reduceToNat, Int.reduceAdd, Int.reduceSub, Int.reduceMul, Int.reduceNeg, Int.reduceEq]
        intro b
        refine ⟨(i + 1, r, out ++ [t], b), ⟨hi, by simp [h2], hr, ?_⟩, by simp only; omega, .inl (by simp), 1, by simp⟩
        simp only
        cases tx13 (a.drop (i + 1)) r <;> simp
  · obtain rfl : i = a.length := by omega
    have hm : ∀ hp m, (out.map sA).mapM (fz hp m 4) = some (out.map sA) := fun hp m => fz_map _ _ _ _ _ fun x => by simp only [fz]
    simp (config := { contextual := true, maxSteps := 4000000 }) (disch := omega) only [go_sem, beq_self_eq_true, Nat.reduceBEq, ↓reduceIte, reduceCtorEq, Nat.reduceEqDiff, Nat.reduceAdd, Nat.reduceSub, Nat.reduceMul, Nat.reduceLT, Nat.reduceLeDiff, Int.reduceLT, Int.reduceLE, Int.reduceToNat, Int.reduceAdd, Int.reduceSub, Int.reduceMul, Int.reduceNeg, Int.reduceEq, List.drop_length, tx13, tx13R, List.take_of_length_le (show (List.map sA out).length ≤ out.length by simp), hm]
theorem ref13_begins (s t : List UInt8) : APure Try.prog 37 [sA s, sA t] (boolA (decide (t.length ≤ s.length ∧ s.take t.length = t))) := by
  refine i37 rfl (by simp) (W.go 200 ?_)
  by_cases c : t.length ≤ s.length
  · simp (config := { contextual := true, maxSteps := 4000000 }) (disch := omega) only [go_sem, beq_self_eq_true, Nat.reduceBEq, ↓reduceIte, reduceCtorEq, Nat.reduceEqDiff, Nat.reduceAdd, Nat.reduceSub, Nat.reduceMul, Nat.reduceLT, Nat.reduceLeDiff, Int.reduceLT, Int.reduceLE, Int.reduceToNat, Int.reduceAdd, Int.reduceSub, Int.reduceMul, Int.reduceNeg, Int.reduceEq, c]
  · simp (config := { contextual := true, maxSteps := 4000000 }) (disch := omega) only [go_sem, beq_self_eq_true, Nat.reduceBEq, ↓reduceIte, reduceCtorEq, Nat.reduceEqDiff, Nat.reduceAdd, Nat.reduceSub, Nat.reduceMul, Nat.reduceLT, Nat.reduceLeDiff, Int.reduceLT, Int.reduceLE, Int.reduceToNat, Int.reduceAdd, Int.reduceSub, Int.reduceMul, Int.reduceNeg, Int.reduceEq, c]
theorem ref13_flag (b : Bool) : APure Try.prog 42 [boolA b] (sA (fl b)) := by
  refine i42 rfl (by simp) (W.go 200 ?_)
  cases b <;> simp (config := { contextual := true, maxSteps := 4000000 }) (disch := omega) only [go_sem, beq_self_eq_true, Nat.reduceBEq, ↓reduceIte, reduceCtorEq, Nat.reduceEqDiff, Nat.reduceAdd, Nat.reduceSub, Nat.reduceMul, Nat.reduceLT, Nat.reduceLeDiff, Int.reduceLT, Int.reduceLE, Int.reduceToNat, Int.reduceAdd, Int.reduceSub, Int.reduceMul, Int.reduceNeg, Int.reduceEq, fl]
theorem ref13_num (n m : Nat) (h1 : 1 ≤ m) (h8 : m ≤ 8) (h : n < 256 ^ m) : APure Try.prog 40 [uA n, iA m] (sA (be n m)) := by
  refine i40 rfl (by simp) (W.go 200 ?_)
  simp (config := { contextual := true, maxSteps := 4000000 }) (disch := omega) only [go_sem, beq_self_eq_true, Nat.reduceBEq, ↓reduceIte, reduceCtorEq, Nat.reduceEqDiff, Nat.reduceAdd, Nat.reduceSub, Nat.reduceMul, Nat.reduceLT, Nat.reduceLeDiff, Int.reduceLT, Int.reduceLE, Int.reduceToNat, Int.reduceAdd, Int.reduceSub, Int.reduceMul, Int.reduceNeg, Int.reduceEq]
  refine CallG.pure (ref01_Num n m h1 h8 h) (W.go 200 ?_)
  simp (config := { contextual := true, maxSteps := 4000000 }) (disch := omega) only [go_sem, beq_self_eq_true, Nat.reduceBEq, ↓reduceIte, reduceCtorEq, Nat.reduceEqDiff, Nat.reduceAdd, Nat.reduceSub, Nat.reduceMul, Nat.reduceLT, Nat.reduceLeDiff, Int.reduceLT, Int.reduceLE, Int.reduceToNat, Int.reduceAdd, Int.reduceSub, Int.reduceMul, Int.reduceNeg, Int.reduceEq]
theorem ref13_text (l : List UInt8) (hl : l.length ≤ 65535) : APure Try.prog 41 [sA l] (sA (tx l)) := by
  refine i41 rfl (by simp) (W.go 200 ?_)
  simp (config := { contextual := true, maxSteps := 4000000 }) (disch := omega) only [go_sem, beq_self_eq_true, Nat.reduceBEq, ↓reduceIte, reduceCtorEq, Nat.reduceEqDiff, Nat.reduceAdd, Nat.reduceSub, Nat.reduceMul, Nat.reduceLT, Nat.reduceLeDiff, Int.reduceLT, Int.reduceLE, Int.reduceToNat, Int.reduceAdd, Int.reduceSub, Int.reduceMul, Int.reduceNeg, Int.reduceEq]
  refine CallG.pure (ref01_Text l hl) (W.go 200 ?_)
  simp (config := { contextual := true, maxSteps := 4000000 }) (disch := omega) only [go_sem, beq_self_eq_true, Nat.reduceBEq, ↓reduceIte, reduceCtorEq, Nat.reduceEqDiff, Nat.reduceAdd, Nat.reduceSub, Nat.reduceMul, Nat.reduceLT, Nat.reduceLeDiff, Int.reduceLT, Int.reduceLE, Int.reduceToNat, Int.reduceAdd, Int.reduceSub, Int.reduceMul, Int.reduceNeg, Int.reduceEq]
end Go.Ab
