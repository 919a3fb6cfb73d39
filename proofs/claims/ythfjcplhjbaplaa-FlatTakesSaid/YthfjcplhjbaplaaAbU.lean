/- What the document's answers for flat things come to: whether they may be, their bytes. -/
import Derived.Test.YthfjcplhjbaplaaAbT
namespace Go.Ab
open Go.Proofs
set_option linter.all false
set_option maxRecDepth 100000
set_option maxHeartbeats 4000000
def rright (lo hi : List UInt8) (o : Bool) : Bool := decide (lo.length ≤ 16 ∧ hi.length ≤ 17 ∧ (o = false ∨ hi = []))
@[go_sem] abbrev rgA (lo hi : List UInt8) (o : Bool) : AV := .agg [sA lo, sA hi, boolA o]
theorem ref03_Right (lo hi : List UInt8) (o : Bool) : APure Try.prog 35 [rgA lo hi o] (boolA (rright lo hi o)) := by
  refine i35 rfl (by simp) (W.go 200 ?_)
  simp (config := { contextual := true, maxSteps := 4000000 }) (disch := omega) only [go_sem, beq_self_eq_true, Nat.reduceBEq, ↓reduceIte, reduceCtorEq, Nat.reduceEqDiff, Nat.reduceAdd, Nat.reduceSub, Nat.reduceMul, Nat.reduceLT, Nat.reduceLeDiff, Int.reduceLT, Int.reduceLE, Int.reduceToNat, Int.reduceAdd, Int.reduceSub, Int.reduceMul, Int.reduceNeg, Int.reduceEq]
  have e : (hi.length : Int) = 0 ↔ hi = [] := by rw [← List.length_eq_zero_iff]; omega
  have k1' : ((16 : Int) < lo.length) ↔ ¬ lo.length ≤ 16 := by omega
  have k2' : ((17 : Int) < hi.length) ↔ ¬ hi.length ≤ 17 := by omega
  by_cases k1 : lo.length ≤ 16 <;> by_cases k2 : hi.length ≤ 17 <;> by_cases k3 : hi = [] <;> cases o <;> simp [k1', k2', e, k1, k2, k3, sp, rright]
theorem ref09_Right (x : Note) : APure Try.prog 36 [x.av] (boolA (nright x)) := by
  refine i36 rfl (by simp) (W.go 200 ?_)
  simp (config := { contextual := true, maxSteps := 4000000 }) (disch := omega) only [go_sem, beq_self_eq_true, Nat.reduceBEq, ↓reduceIte, reduceCtorEq, Nat.reduceEqDiff, Nat.reduceAdd, Nat.reduceSub, Nat.reduceMul, Nat.reduceLT, Nat.reduceLeDiff, Int.reduceLT, Int.reduceLE, Int.reduceToNat, Int.reduceAdd, Int.reduceSub, Int.reduceMul, Int.reduceNeg, Int.reduceEq]
  unfold nright
  repeat' first | (intro _) | (refine And.intro ?_ ?_)
  all_goals grind
theorem ref10_Right (p : Pair) : APure Try.prog 38 [.sl 2 [p.av]] (boolA (pright p)) := by
  refine i38 rfl (by simp) (W.go 200 ?_)
  simp (config := { contextual := true, maxSteps := 4000000 }) (disch := omega) only [go_sem, beq_self_eq_true, Nat.reduceBEq, ↓reduceIte, reduceCtorEq, Nat.reduceEqDiff, Nat.reduceAdd, Nat.reduceSub, Nat.reduceMul, Nat.reduceLT, Nat.reduceLeDiff, Int.reduceLT, Int.reduceLE, Int.reduceToNat, Int.reduceAdd, Int.reduceSub, Int.reduceMul, Int.reduceNeg, Int.reduceEq]
  refine W.loopS (fun k : Nat => [(0, .sl 2 [p.av]), (3, iA k)]) (fun _ => []) (fun k => k ≤ 1 ∧ (k = 1 → pright p = true)) (fun k => 1 - k) 0 ⟨by omega, by omega⟩ rfl rfl ?_
  rintro k ⟨hk, hr⟩
  refine W.go 200 ?_
  rcases (by omega : k = 0 ∨ k = 1) with rfl | rfl
  · simp (config := { contextual := true, maxSteps := 4000000 }) (disch := omega) only [go_sem, beq_self_eq_true, Nat.reduceBEq, ↓reduceIte, reduceCtorEq, Nat.reduceEqDiff, Nat.reduceAdd, Nat.reduceSub, Nat.reduceMul, Nat.reduceLT, Nat.reduceLeDiff, Int.reduceLT, Int.reduceLE, Int.reduceToNat, Int.reduceAdd, Int.reduceSub, Int.reduceMul, Int.reduceNeg, Int.reduceEq, pright]
    refine ⟨fun h => ?_, fun h => ⟨fun h2 => ?_, fun h2 => ?_⟩⟩
    · simp; omega
    · simp; omega
    · exact ⟨1, ⟨by omega, fun _ => by simp [pright]; omega⟩, by omega, .inl rfl, 0, rfl⟩
  · rw [hr rfl]
    simp (config := { contextual := true, maxSteps := 4000000 }) (disch := omega) only [go_sem, beq_self_eq_true, Nat.reduceBEq, ↓reduceIte, reduceCtorEq, Nat.reduceEqDiff, Nat.reduceAdd, Nat.reduceSub, Nat.reduceMul, Nat.reduceLT, Nat.reduceLeDiff, Int.reduceLT, Int.reduceLE, Int.reduceToNat, Int.reduceAdd, Int.reduceSub, Int.reduceMul, Int.reduceNeg, Int.reduceEq]
theorem ref13_May (c : Change) : APure Try.prog 39 [c.av] (boolA (cmay c)) := by
  refine i39 rfl (by simp) (W.go 200 ?_)
  simp (config := { contextual := true, maxSteps := 4000000 }) (disch := omega) only [go_sem, beq_self_eq_true, Nat.reduceBEq, ↓reduceIte, reduceCtorEq, Nat.reduceEqDiff, Nat.reduceAdd, Nat.reduceSub, Nat.reduceMul, Nat.reduceLT, Nat.reduceLeDiff, Int.reduceLT, Int.reduceLE, Int.reduceToNat, Int.reduceAdd, Int.reduceSub, Int.reduceMul, Int.reduceNeg, Int.reduceEq]
  generalize e : cmay c = m
  unfold cmay at e
  obtain ⟨q, key, had, before, has, after⟩ := c
  simp only at e ⊢
  refine ⟨fun h => ?_, fun h1 => ⟨fun h => ?_, fun h2 => ⟨fun h => ?_, fun h3 => ⟨fun h => ?_, fun h4 => ⟨fun h => ?_, fun h5 => ?_⟩⟩⟩⟩⟩
  · exact (decide_eq_false (fun hh => by have := hh.1; have := hh.2.1; omega)).symm.trans e
  · exact (decide_eq_false (fun hh => by have := hh.1; have := hh.2.1; omega)).symm.trans e
  · exact (decide_eq_false (fun hh => by have := hh.1; have := hh.2.1; omega)).symm.trans e
  · exact (decide_eq_false (fun hh => by have := hh.1; have := hh.2.1; omega)).symm.trans e
  · exact (decide_eq_false (fun hh => by have := hh.1; have := hh.2.1; omega)).symm.trans e
  · have e2 : decide ((had = true ∨ before = []) ∧ (has = true ∨ after = []) ∧ (had = true ∨ has = true)) = m := by
      rw [← e]; congr 1; simp only [eq_iff_iff]
      exact ⟨fun h => ⟨⟨by omega, by omega, by omega⟩, ⟨by omega, by omega⟩, h⟩, fun h => h.2.2⟩
    rw [← e2]
    by_cases k3 : before = [] <;> by_cases k4 : after = [] <;> cases had <;> cases has <;> simp [k3, k4, sp]
end Go.Ab
