/- What the document's answers for flat things come to: bytes of one thing, and what bytes begin with. -/
import Derived.Test.YthfjcplhjbaplaaAbU
namespace Go.Ab
open Go.Proofs
set_option linter.all false
set_option maxRecDepth 100000
set_option maxHeartbeats 4000000
theorem ref13_Pair (p : Pair) (h1 : p.key.length ≤ 65535) (h2 : p.value.length ≤ 65535) : APure Try.prog 15 [p.av] (sA (encP p)) := by
  refine i15 rfl (by simp) (W.go 200 ?_)
  simp (config := { contextual := true, maxSteps := 4000000 }) (disch := omega) only [go_sem, beq_self_eq_true, Nat.reduceBEq, ↓reduceIte, reduceCtorEq, Nat.reduceEqDiff, Nat.reduceAdd, Nat.reduceSub, Nat.reduceMul, Nat.reduceLT, Nat.reduceLeDiff, Int.reduceLT, Int.reduceLE, Int.reduceToNat, Int.reduceAdd, Int.reduceSub, Int.reduceMul, Int.reduceNeg, Int.reduceEq]
  intro b
  refine CallD.pure (ref13_text p.key h1) (W.go 200 ?_)
  simp (config := { contextual := true, maxSteps := 4000000 }) (disch := omega) only [go_sem, beq_self_eq_true, Nat.reduceBEq, ↓reduceIte, reduceCtorEq, Nat.reduceEqDiff, Nat.reduceAdd, Nat.reduceSub, Nat.reduceMul, Nat.reduceLT, Nat.reduceLeDiff, Int.reduceLT, Int.reduceLE, Int.reduceToNat, Int.reduceAdd, Int.reduceSub, Int.reduceMul, Int.reduceNeg, Int.reduceEq]
  refine CallD.pure (ref13_text p.value h2) (W.go 200 ?_)
  simp (config := { contextual := true, maxSteps := 4000000 }) (disch := omega) only [go_sem, beq_self_eq_true, Nat.reduceBEq, ↓reduceIte, reduceCtorEq, Nat.reduceEqDiff, Nat.reduceAdd, Nat.reduceSub, Nat.reduceMul, Nat.reduceLT, Nat.reduceLeDiff, Int.reduceLT, Int.reduceLE, Int.reduceToNat, Int.reduceAdd, Int.reduceSub, Int.reduceMul, Int.reduceNeg, Int.reduceEq, tx_length, encP]
theorem ref13_Note (n : Note) (h0 : 0 ≤ n.kind ∧ n.kind < 256) (h1 : n.key.length ≤ 65535) (h2 : n.value.length ≤ 65535) (h3 : n.n < 18446744073709551616) : APure Try.prog 14 [n.av] (sA (encN n)) := by
  refine i14 rfl (by simp) (W.go 200 ?_)
  obtain ⟨k, hk⟩ := Int.eq_ofNat_of_zero_le h0.1
  have hw : IntKind.u64.wrap n.kind = ((k : Nat) : Int) := by rw [hk, u64_in (by omega) (by omega)]
  simp (config := { contextual := true, maxSteps := 4000000 }) (disch := omega) only [go_sem, beq_self_eq_true, Nat.reduceBEq, ↓reduceIte, reduceCtorEq, Nat.reduceEqDiff, Nat.reduceAdd, Nat.reduceSub, Nat.reduceMul, Nat.reduceLT, Nat.reduceLeDiff, Int.reduceLT, Int.reduceLE, Int.reduceToNat, Int.reduceAdd, Int.reduceSub, Int.reduceMul, Int.reduceNeg, Int.reduceEq, hw]
  intro b
  refine CallD.pure (ref13_num k 1 (by omega) (by omega) (by omega)) (W.go 200 ?_)
  simp (config := { contextual := true, maxSteps := 4000000 }) (disch := omega) only [go_sem, beq_self_eq_true, Nat.reduceBEq, ↓reduceIte, reduceCtorEq, Nat.reduceEqDiff, Nat.reduceAdd, Nat.reduceSub, Nat.reduceMul, Nat.reduceLT, Nat.reduceLeDiff, Int.reduceLT, Int.reduceLE, Int.reduceToNat, Int.reduceAdd, Int.reduceSub, Int.reduceMul, Int.reduceNeg, Int.reduceEq]
  refine CallD.pure (ref13_text n.key h1) (W.go 200 ?_)
  simp (config := { contextual := true, maxSteps := 4000000 }) (disch := omega) only [go_sem, beq_self_eq_true, Nat.reduceBEq, ↓reduceIte, reduceCtorEq, Nat.reduceEqDiff, Nat.reduceAdd, Nat.reduceSub, Nat.reduceMul, Nat.reduceLT, Nat.reduceLeDiff, Int.reduceLT, Int.reduceLE, Int.reduceToNat, Int.reduceAdd, Int.reduceSub, Int.reduceMul, Int.reduceNeg, Int.reduceEq, tx_length, be_length]
  refine CallD.pure (ref13_text n.value h2) (W.go 200 ?_)
  simp (config := { contextual := true, maxSteps := 4000000 }) (disch := omega) only [go_sem, beq_self_eq_true, Nat.reduceBEq, ↓reduceIte, reduceCtorEq, Nat.reduceEqDiff, Nat.reduceAdd, Nat.reduceSub, Nat.reduceMul, Nat.reduceLT, Nat.reduceLeDiff, Int.reduceLT, Int.reduceLE, Int.reduceToNat, Int.reduceAdd, Int.reduceSub, Int.reduceMul, Int.reduceNeg, Int.reduceEq, tx_length, be_length]
  refine CallD.pure (ref13_num n.n 8 (by omega) (by omega) (by omega)) (W.go 200 ?_)
  simp (config := { contextual := true, maxSteps := 4000000 }) (disch := omega) only [go_sem, beq_self_eq_true, Nat.reduceBEq, ↓reduceIte, reduceCtorEq, Nat.reduceEqDiff, Nat.reduceAdd, Nat.reduceSub, Nat.reduceMul, Nat.reduceLT, Nat.reduceLeDiff, Int.reduceLT, Int.reduceLE, Int.reduceToNat, Int.reduceAdd, Int.reduceSub, Int.reduceMul, Int.reduceNeg, Int.reduceEq, tx_length, be_length]
  simp [encN, hk]
theorem ref13_Change (c : Change) (h0 : 0 ≤ c.seq ∧ c.seq < 4294967296) (h1 : c.key.length ≤ 65535) (h2 : c.before.length ≤ 65535) (h3 : c.after.length ≤ 65535) : APure Try.prog 16 [c.av] (sA (encC c)) := by
  refine i16 rfl (by simp) (W.go 200 ?_)
  obtain ⟨k, hk⟩ := Int.eq_ofNat_of_zero_le h0.1
  have hw : IntKind.u64.wrap c.seq = ((k : Nat) : Int) := by rw [hk, u64_in (by omega) (by omega)]
  simp (config := { contextual := true, maxSteps := 4000000 }) (disch := omega) only [go_sem, beq_self_eq_true, Nat.reduceBEq, ↓reduceIte, reduceCtorEq, Nat.reduceEqDiff, Nat.reduceAdd, Nat.reduceSub, Nat.reduceMul, Nat.reduceLT, Nat.reduceLeDiff, Int.reduceLT, Int.reduceLE, Int.reduceToNat, Int.reduceAdd, Int.reduceSub, Int.reduceMul, Int.reduceNeg, Int.reduceEq, hw]
  intro b
  refine CallD.pure (ref13_num k 4 (by omega) (by omega) (by omega)) (W.go 200 ?_)
  simp (config := { contextual := true, maxSteps := 4000000 }) (disch := omega) only [go_sem, beq_self_eq_true, Nat.reduceBEq, ↓reduceIte, reduceCtorEq, Nat.reduceEqDiff, Nat.reduceAdd, Nat.reduceSub, Nat.reduceMul, Nat.reduceLT, Nat.reduceLeDiff, Int.reduceLT, Int.reduceLE, Int.reduceToNat, Int.reduceAdd, Int.reduceSub, Int.reduceMul, Int.reduceNeg, Int.reduceEq]
  refine CallD.pure (ref13_text c.key h1) (W.go 200 ?_)
  simp (config := { contextual := true, maxSteps := 4000000 }) (disch := omega) only [go_sem, beq_self_eq_true, Nat.reduceBEq, ↓reduceIte, reduceCtorEq, Nat.reduceEqDiff, Nat.reduceAdd, Nat.reduceSub, Nat.reduceMul, Nat.reduceLT, Nat.reduceLeDiff, Int.reduceLT, Int.reduceLE, Int.reduceToNat, Int.reduceAdd, Int.reduceSub, Int.reduceMul, Int.reduceNeg, Int.reduceEq, tx_length, be_length]
  refine CallD.pure (ref13_flag c.had) (W.go 200 ?_)
  simp (config := { contextual := true, maxSteps := 4000000 }) (disch := omega) only [go_sem, beq_self_eq_true, Nat.reduceBEq, ↓reduceIte, reduceCtorEq, Nat.reduceEqDiff, Nat.reduceAdd, Nat.reduceSub, Nat.reduceMul, Nat.reduceLT, Nat.reduceLeDiff, Int.reduceLT, Int.reduceLE, Int.reduceToNat, Int.reduceAdd, Int.reduceSub, Int.reduceMul, Int.reduceNeg, Int.reduceEq, tx_length, be_length, fl_length]
  refine CallD.pure (ref13_text c.before h2) (W.go 200 ?_)
  simp (config := { contextual := true, maxSteps := 4000000 }) (disch := omega) only [go_sem, beq_self_eq_true, Nat.reduceBEq, ↓reduceIte, reduceCtorEq, Nat.reduceEqDiff, Nat.reduceAdd, Nat.reduceSub, Nat.reduceMul, Nat.reduceLT, Nat.reduceLeDiff, Int.reduceLT, Int.reduceLE, Int.reduceToNat, Int.reduceAdd, Int.reduceSub, Int.reduceMul, Int.reduceNeg, Int.reduceEq, tx_length, be_length, fl_length]
  refine CallD.pure (ref13_flag c.has) (W.go 200 ?_)
  simp (config := { contextual := true, maxSteps := 4000000 }) (disch := omega) only [go_sem, beq_self_eq_true, Nat.reduceBEq, ↓reduceIte, reduceCtorEq, Nat.reduceEqDiff, Nat.reduceAdd, Nat.reduceSub, Nat.reduceMul, Nat.reduceLT, Nat.reduceLeDiff, Int.reduceLT, Int.reduceLE, Int.reduceToNat, Int.reduceAdd, Int.reduceSub, Int.reduceMul, Int.reduceNeg, Int.reduceEq, tx_length, be_length, fl_length]
  refine CallD.pure (ref13_text c.after h3) (W.go 200 ?_)
  simp (config := { contextual := true, maxSteps := 4000000 }) (disch := omega) only [go_sem, beq_self_eq_true, Nat.reduceBEq, ↓reduceIte, reduceCtorEq, Nat.reduceEqDiff, Nat.reduceAdd, Nat.reduceSub, Nat.reduceMul, Nat.reduceLT, Nat.reduceLeDiff, Int.reduceLT, Int.reduceLE, Int.reduceToNat, Int.reduceAdd, Int.reduceSub, Int.reduceMul, Int.reduceNeg, Int.reduceEq, tx_length, be_length, fl_length]
  simp [encC, hk]
theorem gN_back (s : List UInt8) (h : (gN s).2.2 = false) : encN (gN s).1 ++ (gN s).2.1 = s := by
  simp only [gN, Bool.or_eq_false_iff] at h ⊢
  have b1 := rnum_back s 1 h.1.1.1
  have b2 := rtext_back _ h.1.1.2
  have b3 := rtext_back _ h.1.2
  have b4 := rnum_back _ 8 h.2
  simp only [encN, Int.toNat_natCast, List.append_assoc]
  rw [b4, b3, b2, b1]
theorem gP_back (s : List UInt8) (h : (gP s).2.2 = false) : encP (gP s).1 ++ (gP s).2.1 = s := by
  simp only [gP, Bool.or_eq_false_iff] at h ⊢
  have b2 := rtext_back _ h.1
  have b3 := rtext_back _ h.2
  simp only [encP, List.append_assoc]
  rw [b3, b2]
theorem gC_back (s : List UInt8) (h : (gC s).2.2 = false) : encC (gC s).1 ++ (gC s).2.1 = s := by
  simp only [gC, Bool.or_eq_false_iff] at h ⊢
  have b1 := rnum_back s 4 h.1.1.1.1.1
  have b2 := rtext_back _ h.1.1.1.1.2
  have b3 := rflag_back _ h.1.1.1.2
  have b4 := rtext_back _ h.1.1.2
  have b5 := rflag_back _ h.1.2
  have b6 := rtext_back _ h.2
  simp only [encC, Int.toNat_natCast, List.append_assoc]
  rw [b6, b5, b4, b3, b2, b1]
end Go.Ab
