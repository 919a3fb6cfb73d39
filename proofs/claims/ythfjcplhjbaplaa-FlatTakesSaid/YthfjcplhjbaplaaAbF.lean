/- What the reading functions of package flat come to. -/
import Derived.Test.YthfjcplhjbaplaaAbS
namespace Go.Ab
open Go.Proofs
set_option linter.all false
set_option maxRecDepth 100000
set_option maxHeartbeats 4000000
@[go_sem] abbrev rdA (s : List UInt8) (bad : Bool) : AV := .agg [sA s, boolA bad]
@[go_sem] abbrev Note.av (x : Note) : AV := .agg [iA x.kind, sA x.key, sA x.value, uA x.n]
@[go_sem] abbrev Pair.av (x : Pair) : AV := .agg [sA x.key, sA x.value]
@[go_sem] abbrev Change.av (x : Change) : AV := .agg [iA x.seq, sA x.key, boolA x.had, sA x.before, boolA x.has, sA x.after]
theorem takeP_rnum (s : List UInt8) (n : Nat) (h : 1 ≤ n ∧ n ≤ 8) : (takeP s n).1 = (rnum s n).1 ∧ (takeP s n).2.1 = (rnum s n).2.1 ∧ decide ((takeP s n).2.2 = 0) = !(rnum s n).2.2 := by
  unfold takeP rnum
  rw [if_pos (by omega), Int.toNat_natCast]
  by_cases c : s.length < n <;> simp [c]
theorem takeTextP_rtext (s : List UInt8) : (takeTextP s).1 = (rtext s).1 ∧ (takeTextP s).2.1 = (rtext s).2.1 ∧ decide ((takeTextP s).2.2 = 0) = !(rtext s).2.2 := by
  unfold takeTextP rtext
  by_cases c : s.length < 2 ∨ s.length < 2 + val (s.take 2) <;> simp [c]
theorem reader_num (s : List UInt8) (bad : Bool) (n : Nat) (h : 1 ≤ n ∧ n ≤ 8) : AMut Try.prog 24 2 79 [iA n] (rdA s bad) (uA (rnum s n).1) (rdA (rnum s n).2.1 (bad || (rnum s n).2.2)) := by
  refine m24 rfl (by simp) fun b => W.go 60 ?_
  simp (config := { contextual := true, maxSteps := 4000000 }) (disch := omega) only [go_sem, beq_self_eq_true, Nat.reduceBEq, ↓reduceIte, reduceCtorEq, Nat.reduceEqDiff, Nat.reduceAdd, Nat.reduceSub, Nat.reduceMul, Nat.reduceLT, Nat.reduceLeDiff, Int.reduceLT, Int.reduceLE, Int.reduceToNat, Int.reduceAdd, Int.reduceSub, Int.reduceMul, Int.reduceNeg, Int.reduceEq]
  refine CallG.pure (pack_Take s n) (W.go 200 ?_)
  obtain ⟨e1, e2, e3⟩ := takeP_rnum s n h
  cases bad <;> simp (config := { contextual := true, maxSteps := 4000000 }) (disch := omega) only [go_sem, beq_self_eq_true, Nat.reduceBEq, ↓reduceIte, reduceCtorEq, Nat.reduceEqDiff, Nat.reduceAdd, Nat.reduceSub, Nat.reduceMul, Nat.reduceLT, Nat.reduceLeDiff, Int.reduceLT, Int.reduceLE, Int.reduceToNat, Int.reduceAdd, Int.reduceSub, Int.reduceMul, Int.reduceNeg, Int.reduceEq, e1, e2, e3, Bool.not_not]
theorem reader_text (s : List UInt8) (hs : s.length ≤ 2 ^ 40) (bad : Bool) : AMut Try.prog 25 2 79 [] (rdA s bad) (sA (rtext s).1) (rdA (rtext s).2.1 (bad || (rtext s).2.2)) := by
  refine m25 rfl (by simp) fun b => W.go 60 ?_
  simp (config := { contextual := true, maxSteps := 4000000 }) (disch := omega) only [go_sem, beq_self_eq_true, Nat.reduceBEq, ↓reduceIte, reduceCtorEq, Nat.reduceEqDiff, Nat.reduceAdd, Nat.reduceSub, Nat.reduceMul, Nat.reduceLT, Nat.reduceLeDiff, Int.reduceLT, Int.reduceLE, Int.reduceToNat, Int.reduceAdd, Int.reduceSub, Int.reduceMul, Int.reduceNeg, Int.reduceEq]
  refine CallG.pure (pack_TakeText s hs) (W.go 200 ?_)
  obtain ⟨e1, e2, e3⟩ := takeTextP_rtext s
  cases bad <;> simp (config := { contextual := true, maxSteps := 4000000 }) (disch := omega) only [go_sem, beq_self_eq_true, Nat.reduceBEq, ↓reduceIte, reduceCtorEq, Nat.reduceEqDiff, Nat.reduceAdd, Nat.reduceSub, Nat.reduceMul, Nat.reduceLT, Nat.reduceLeDiff, Int.reduceLT, Int.reduceLE, Int.reduceToNat, Int.reduceAdd, Int.reduceSub, Int.reduceMul, Int.reduceNeg, Int.reduceEq, e1, e2, e3, Bool.not_not]
theorem reader_flag (s : List UInt8) (bad : Bool) : AMut Try.prog 32 2 79 [] (rdA s bad) (boolA (rflag s).1) (rdA (rflag s).2.1 (bad || (rflag s).2.2)) := by
  refine m32 rfl (by simp) fun b => W.go 60 ?_
  simp (config := { contextual := true, maxSteps := 4000000 }) (disch := omega) only [go_sem, beq_self_eq_true, Nat.reduceBEq, ↓reduceIte, reduceCtorEq, Nat.reduceEqDiff, Nat.reduceAdd, Nat.reduceSub, Nat.reduceMul, Nat.reduceLT, Nat.reduceLeDiff, Int.reduceLT, Int.reduceLE, Int.reduceToNat, Int.reduceAdd, Int.reduceSub, Int.reduceMul, Int.reduceNeg, Int.reduceEq]
  refine CallG.mut (reader_num s bad 1 (by omega)) rfl (W.go 200 ?_)
  have e : (bad || (rflag s).2.2) = ((bad || (rnum s 1).2.2) || decide ((1 : Int) < (rnum s 1).1)) := by simp only [rflag, Bool.or_assoc]; congr 2; rw [Bool.eq_iff_iff]; simp; omega
  have e1 : (rflag s).1 = decide (((rnum s 1).1 : Int) = 1) := by simp only [rflag]; rw [Bool.eq_iff_iff]; simp; omega
  rw [e, e1]
  generalize (bad || (rnum s 1).2.2) = d
  cases d <;> simp (config := { contextual := true, maxSteps := 4000000 }) (disch := omega) only [go_sem, beq_self_eq_true, Nat.reduceBEq, ↓reduceIte, reduceCtorEq, Nat.reduceEqDiff, Nat.reduceAdd, Nat.reduceSub, Nat.reduceMul, Nat.reduceLT, Nat.reduceLeDiff, Int.reduceLT, Int.reduceLE, Int.reduceToNat, Int.reduceAdd, Int.reduceSub, Int.reduceMul, Int.reduceNeg, Int.reduceEq, rflag, gt_iff_lt]
/-- what may be -/
def nright (x : Note) : Bool := decide ((x.key.length ≤ 16 ∧ x.value.length ≤ 32) ∧ ((x.kind = 1 ∧ x.n = 0) ∨ (x.kind = 2 ∧ x.n = 0 ∧ x.value = []) ∨ (x.kind = 3 ∧ x.value = [])))
def pright (x : Pair) : Bool := decide (x.key.length ≤ 16 ∧ x.value.length ≤ 32)
def cmay (c : Change) : Bool :=
  decide ((c.key.length ≤ 16 ∧ c.before.length ≤ 32 ∧ c.after.length ≤ 32) ∧ (1 ≤ c.seq ∧ c.seq ≤ 2147483647) ∧ (c.had = true ∨ c.before = []) ∧ (c.has = true ∨ c.after = []) ∧ (c.had = true ∨ c.has = true))
theorem note_Right (x : Note) : APure Try.prog 22 [x.av] (boolA (nright x)) := by
  refine i22 rfl (by simp) (W.go 200 ?_)
  simp (config := { contextual := true, maxSteps := 4000000 }) (disch := omega) only [go_sem, beq_self_eq_true, Nat.reduceBEq, ↓reduceIte, reduceCtorEq, Nat.reduceEqDiff, Nat.reduceAdd, Nat.reduceSub, Nat.reduceMul, Nat.reduceLT, Nat.reduceLeDiff, Int.reduceLT, Int.reduceLE, Int.reduceToNat, Int.reduceAdd, Int.reduceSub, Int.reduceMul, Int.reduceNeg, Int.reduceEq]
  unfold nright
  repeat' first | (intro _) | (refine And.intro ?_ ?_)
  all_goals grind
theorem take_note_get (s : List UInt8) (hs : s.length ≤ 2 ^ 40) : AMut Try.prog 23 2 79 [] (rdA s false) (gN s).1.av (rdA (gN s).2.1 (gN s).2.2) := by
  have h1 := rnum_le s 1
  have h2 := rtext_le (rnum s 1).2.1
  have h3 := rtext_le (rtext (rnum s 1).2.1).2.1
  have h4 := rnum_lt s 1
  refine m23 rfl (by simp) fun b => W.go 60 ?_
  simp (config := { contextual := true, maxSteps := 4000000 }) (disch := omega) only [go_sem, beq_self_eq_true, Nat.reduceBEq, ↓reduceIte, reduceCtorEq, Nat.reduceEqDiff, Nat.reduceAdd, Nat.reduceSub, Nat.reduceMul, Nat.reduceLT, Nat.reduceLeDiff, Int.reduceLT, Int.reduceLE, Int.reduceToNat, Int.reduceAdd, Int.reduceSub, Int.reduceMul, Int.reduceNeg, Int.reduceEq]
  intro b1
  refine CallG.mut (reader_num s false 1 (by omega)) rfl (W.go 200 ?_)
  simp (config := { contextual := true, maxSteps := 4000000 }) (disch := omega) only [go_sem, beq_self_eq_true, Nat.reduceBEq, ↓reduceIte, reduceCtorEq, Nat.reduceEqDiff, Nat.reduceAdd, Nat.reduceSub, Nat.reduceMul, Nat.reduceLT, Nat.reduceLeDiff, Int.reduceLT, Int.reduceLE, Int.reduceToNat, Int.reduceAdd, Int.reduceSub, Int.reduceMul, Int.reduceNeg, Int.reduceEq]
  refine CallG.mut (reader_text _ (by omega) _) rfl (W.go 200 ?_)
  simp (config := { contextual := true, maxSteps := 4000000 }) (disch := omega) only [go_sem, beq_self_eq_true, Nat.reduceBEq, ↓reduceIte, reduceCtorEq, Nat.reduceEqDiff, Nat.reduceAdd, Nat.reduceSub, Nat.reduceMul, Nat.reduceLT, Nat.reduceLeDiff, Int.reduceLT, Int.reduceLE, Int.reduceToNat, Int.reduceAdd, Int.reduceSub, Int.reduceMul, Int.reduceNeg, Int.reduceEq]
  refine CallG.mut (reader_text _ (by omega) _) rfl (W.go 200 ?_)
  simp (config := { contextual := true, maxSteps := 4000000 }) (disch := omega) only [go_sem, beq_self_eq_true, Nat.reduceBEq, ↓reduceIte, reduceCtorEq, Nat.reduceEqDiff, Nat.reduceAdd, Nat.reduceSub, Nat.reduceMul, Nat.reduceLT, Nat.reduceLeDiff, Int.reduceLT, Int.reduceLE, Int.reduceToNat, Int.reduceAdd, Int.reduceSub, Int.reduceMul, Int.reduceNeg, Int.reduceEq]
  refine CallG.mut (reader_num _ _ 8 (by omega)) rfl (W.go 200 ?_)
  simp (config := { contextual := true, maxSteps := 4000000 }) (disch := omega) only [go_sem, beq_self_eq_true, Nat.reduceBEq, ↓reduceIte, reduceCtorEq, Nat.reduceEqDiff, Nat.reduceAdd, Nat.reduceSub, Nat.reduceMul, Nat.reduceLT, Nat.reduceLeDiff, Int.reduceLT, Int.reduceLE, Int.reduceToNat, Int.reduceAdd, Int.reduceSub, Int.reduceMul, Int.reduceNeg, Int.reduceEq]
  exact ⟨⟨rfl, rfl, rfl, rfl⟩, rfl⟩
theorem take_pair_get (s : List UInt8) (hs : s.length ≤ 2 ^ 40) : AMut Try.prog 28 2 79 [] (rdA s false) (gP s).1.av (rdA (gP s).2.1 (gP s).2.2) := by
  have h1 := rtext_le s
  refine m28 rfl (by simp) fun b => W.go 60 ?_
  simp (config := { contextual := true, maxSteps := 4000000 }) (disch := omega) only [go_sem, beq_self_eq_true, Nat.reduceBEq, ↓reduceIte, reduceCtorEq, Nat.reduceEqDiff, Nat.reduceAdd, Nat.reduceSub, Nat.reduceMul, Nat.reduceLT, Nat.reduceLeDiff, Int.reduceLT, Int.reduceLE, Int.reduceToNat, Int.reduceAdd, Int.reduceSub, Int.reduceMul, Int.reduceNeg, Int.reduceEq]
  intro b1
  refine CallG.mut (reader_text _ (by omega) _) rfl (W.go 200 ?_)
  simp (config := { contextual := true, maxSteps := 4000000 }) (disch := omega) only [go_sem, beq_self_eq_true, Nat.reduceBEq, ↓reduceIte, reduceCtorEq, Nat.reduceEqDiff, Nat.reduceAdd, Nat.reduceSub, Nat.reduceMul, Nat.reduceLT, Nat.reduceLeDiff, Int.reduceLT, Int.reduceLE, Int.reduceToNat, Int.reduceAdd, Int.reduceSub, Int.reduceMul, Int.reduceNeg, Int.reduceEq]
  refine CallG.mut (reader_text _ (by omega) _) rfl (W.go 200 ?_)
  simp (config := { contextual := true, maxSteps := 4000000 }) (disch := omega) only [go_sem, beq_self_eq_true, Nat.reduceBEq, ↓reduceIte, reduceCtorEq, Nat.reduceEqDiff, Nat.reduceAdd, Nat.reduceSub, Nat.reduceMul, Nat.reduceLT, Nat.reduceLeDiff, Int.reduceLT, Int.reduceLE, Int.reduceToNat, Int.reduceAdd, Int.reduceSub, Int.reduceMul, Int.reduceNeg, Int.reduceEq]
  exact ⟨⟨rfl, rfl⟩, rfl⟩
theorem take_change_get (s : List UInt8) (hs : s.length ≤ 2 ^ 40) : AMut Try.prog 31 2 79 [] (rdA s false) (gC s).1.av (rdA (gC s).2.1 (gC s).2.2) := by
  have h1 := rnum_le s 4
  have h2 := rtext_le (rnum s 4).2.1
  have h3 := rflag_le (rtext (rnum s 4).2.1).2.1
  have h4 := rtext_le (rflag (rtext (rnum s 4).2.1).2.1).2.1
  have h5 := rflag_le (rtext (rflag (rtext (rnum s 4).2.1).2.1).2.1).2.1
  have h6 := rnum_lt s 4
  refine m31 rfl (by simp) fun b => W.go 60 ?_
  simp (config := { contextual := true, maxSteps := 4000000 }) (disch := omega) only [go_sem, beq_self_eq_true, Nat.reduceBEq, ↓reduceIte, reduceCtorEq, Nat.reduceEqDiff, Nat.reduceAdd, Nat.reduceSub, Nat.reduceMul, Nat.reduceLT, Nat.reduceLeDiff, Int.reduceLT, Int.reduceLE, Int.reduceToNat, Int.reduceAdd, Int.reduceSub, Int.reduceMul, Int.reduceNeg, Int.reduceEq]
  intro b1
  refine CallG.mut (reader_num s false 4 (by omega)) rfl (W.go 200 ?_)
  simp (config := { contextual := true, maxSteps := 4000000 }) (disch := omega) only [go_sem, beq_self_eq_true, Nat.reduceBEq, ↓reduceIte, reduceCtorEq, Nat.reduceEqDiff, Nat.reduceAdd, Nat.reduceSub, Nat.reduceMul, Nat.reduceLT, Nat.reduceLeDiff, Int.reduceLT, Int.reduceLE, Int.reduceToNat, Int.reduceAdd, Int.reduceSub, Int.reduceMul, Int.reduceNeg, Int.reduceEq]
  refine CallG.mut (reader_text _ (by omega) _) rfl (W.go 200 ?_)
  simp (config := { contextual := true, maxSteps := 4000000 }) (disch := omega) only [go_sem, beq_self_eq_true, Nat.reduceBEq, ↓reduceIte, reduceCtorEq, Nat.reduceEqDiff, Nat.reduceAdd, Nat.reduceSub, Nat.reduceMul, Nat.reduceLT, Nat.reduceLeDiff, Int.reduceLT, Int.reduceLE, Int.reduceToNat, Int.reduceAdd, Int.reduceSub, Int.reduceMul, Int.reduceNeg, Int.reduceEq]
  refine CallG.mut (reader_flag _ _) rfl (W.go 200 ?_)
  simp (config := { contextual := true, maxSteps := 4000000 }) (disch := omega) only [go_sem, beq_self_eq_true, Nat.reduceBEq, ↓reduceIte, reduceCtorEq, Nat.reduceEqDiff, Nat.reduceAdd, Nat.reduceSub, Nat.reduceMul, Nat.reduceLT, Nat.reduceLeDiff, Int.reduceLT, Int.reduceLE, Int.reduceToNat, Int.reduceAdd, Int.reduceSub, Int.reduceMul, Int.reduceNeg, Int.reduceEq]
  refine CallG.mut (reader_text _ (by omega) _) rfl (W.go 200 ?_)
  simp (config := { contextual := true, maxSteps := 4000000 }) (disch := omega) only [go_sem, beq_self_eq_true, Nat.reduceBEq, ↓reduceIte, reduceCtorEq, Nat.reduceEqDiff, Nat.reduceAdd, Nat.reduceSub, Nat.reduceMul, Nat.reduceLT, Nat.reduceLeDiff, Int.reduceLT, Int.reduceLE, Int.reduceToNat, Int.reduceAdd, Int.reduceSub, Int.reduceMul, Int.reduceNeg, Int.reduceEq]
  refine CallG.mut (reader_flag _ _) rfl (W.go 200 ?_)
  simp (config := { contextual := true, maxSteps := 4000000 }) (disch := omega) only [go_sem, beq_self_eq_true, Nat.reduceBEq, ↓reduceIte, reduceCtorEq, Nat.reduceEqDiff, Nat.reduceAdd, Nat.reduceSub, Nat.reduceMul, Nat.reduceLT, Nat.reduceLeDiff, Int.reduceLT, Int.reduceLE, Int.reduceToNat, Int.reduceAdd, Int.reduceSub, Int.reduceMul, Int.reduceNeg, Int.reduceEq]
  refine CallG.mut (reader_text _ (by omega) _) rfl (W.go 200 ?_)
  simp (config := { contextual := true, maxSteps := 4000000 }) (disch := omega) only [go_sem, beq_self_eq_true, Nat.reduceBEq, ↓reduceIte, reduceCtorEq, Nat.reduceEqDiff, Nat.reduceAdd, Nat.reduceSub, Nat.reduceMul, Nat.reduceLT, Nat.reduceLeDiff, Int.reduceLT, Int.reduceLE, Int.reduceToNat, Int.reduceAdd, Int.reduceSub, Int.reduceMul, Int.reduceNeg, Int.reduceEq]
  simp only [gC, and_self, Bool.false_or]
end Go.Ab
