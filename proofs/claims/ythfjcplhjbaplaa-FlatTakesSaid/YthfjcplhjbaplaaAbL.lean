/- What leaf.Right, flat.pair, flat.May, stretch.Right come to. -/
import Derived.Test.YthfjcplhjbaplaaAbF
namespace Go.Ab
open Go.Proofs
set_option linter.all false
set_option maxRecDepth 100000
set_option maxHeartbeats 4000000
/-- Is a text less than another? -/
def bLt (a b : List UInt8) : Bool := Op.bytesLess a b
theorem sLt_B (a b : List UInt8) : sLt (B a) (B b) = bLt a b := by unfold sLt bLt; rw [B_toList, B_toList]
attribute [go_sem] sLt_B
/-- Do pairs stand well behind a key? -/
def lrFrom : Option (List UInt8) → List Pair → Bool
  | _, [] => true
  | k, p :: r => decide (p.key.length ≤ 16 ∧ p.value.length ≤ 32) && (match k with | none => true | some k => bLt k p.key) && lrFrom (some p.key) r
def lright (l : List Pair) : Bool := lrFrom none l
def prevK (l : List Pair) : Nat → Option (List UInt8)
  | 0 => none
  | j + 1 => (l[j]?).map (·.key)
theorem leaf_Right (l : List Pair) (hl : l.length ≤ 2 ^ 40) : APure Try.prog 54 [.sl 2 (l.map Pair.av)] (boolA (lright l)) := by
  refine i54 rfl (by simp) (W.go 200 ?_)
  simp (config := { contextual := true, maxSteps := 4000000 }) (disch := omega) only [go_sem, beq_self_eq_true, Nat.reduceBEq, ↓reduceIte, reduceCtorEq, Nat.reduceEqDiff, Nat.reduceAdd, Nat.reduceSub, Nat.reduceMul, Nat.reduceLT, Nat.reduceLeDiff, Int.reduceLT, Int.reduceLE, Int.reduceToNat, Int.reduceAdd, Int.reduceSub, Int.reduceMul, Int.reduceNeg, Int.reduceEq]
  refine W.loopS (fun k : Nat => [(0, .sl 2 (l.map Pair.av)), (5, .sl 2 (l.map Pair.av)), (6, iA l.length), (7, iA k)]) (fun _ => []) (fun k => k ≤ l.length ∧ lright l = lrFrom (prevK l k) (l.drop k)) (fun k => l.length - k) 0 ⟨Nat.zero_le _, rfl⟩ rfl rfl ?_
  rintro k ⟨hk, hr⟩
  refine W.go 200 ?_
  rw [hr]
  clear hr
  by_cases hm : k < l.length
  · obtain ⟨p, hp⟩ : ∃ p, l[k]? = some p := ⟨_, List.getElem?_eq_getElem hm⟩
    have hd : l.drop k = p :: l.drop (k + 1) := by
      rw [List.drop_eq_getElem_cons hm]; congr 1; rw [List.getElem?_eq_getElem hm] at hp; exact Option.some.inj hp
    rw [hd]
    have hm' : (k : Int) < l.length := by omega
    cases k with
    | zero =>
      have hm' : (0 : Int) < l.length := by omega
      rw [show prevK l 0 = none from rfl]
      simp (config := { contextual := true, maxSteps := 4000000 }) (disch := omega) only [go_sem, beq_self_eq_true, Nat.reduceBEq, ↓reduceIte, reduceCtorEq, Nat.reduceEqDiff, Nat.reduceAdd, Nat.reduceSub, Nat.reduceMul, Nat.reduceLT, Nat.reduceLeDiff, Int.reduceLT, Int.reduceLE, Int.reduceToNat, Int.reduceAdd, Int.reduceSub, Int.reduceMul, Int.reduceNeg, Int.reduceEq, hm', hp, lrFrom]
      intro b
      refine ⟨fun h => ?_, fun h => ⟨fun h2 => ?_, fun h2 => ?_⟩⟩
      · rw [decide_eq_false (by omega)]; rfl
      · rw [decide_eq_false (by omega)]; rfl
      · refine ⟨1, ⟨by omega, ?_⟩, by omega, .inl rfl, 0, rfl⟩
        rw [decide_eq_true (by omega)]; simp [prevK, hp]
    | succ j =>
      obtain ⟨q, hq⟩ : ∃ q, l[j]? = some q := ⟨_, List.getElem?_eq_getElem (by omega)⟩
      have e1 : (((j + 1 : Nat) : Int) - 1).toNat = j := by omega
      have e2 : (0 : Int) < ((j + 1 : Nat) : Int) := by omega
      rw [show prevK l (j + 1) = some q.key by simp [prevK, hq]]
      simp (config := { contextual := true, maxSteps := 4000000 }) (disch := omega) only [go_sem, beq_self_eq_true, Nat.reduceBEq, ↓reduceIte, reduceCtorEq, Nat.reduceEqDiff, Nat.reduceAdd, Nat.reduceSub, Nat.reduceMul, Nat.reduceLT, Nat.reduceLeDiff, Int.reduceLT, Int.reduceLE, Int.reduceToNat, Int.reduceAdd, Int.reduceSub, Int.reduceMul, Int.reduceNeg, Int.reduceEq, hm, hm', hp, lrFrom, hq, e1, e2]
      intro b
      refine ⟨fun h => ?_, fun h => ⟨fun h2 => ?_, fun h2 => ?_⟩⟩
      · rw [decide_eq_false (by omega)]; rfl
      · rw [decide_eq_false (by omega)]; rfl
      · rw [decide_eq_true (by omega)]
        cases bLt q.key p.key with
        | false => simp (config := { contextual := true, maxSteps := 4000000 }) (disch := omega) only [go_sem, beq_self_eq_true, Nat.reduceBEq, ↓reduceIte, reduceCtorEq, Nat.reduceEqDiff, Nat.reduceAdd, Nat.reduceSub, Nat.reduceMul, Nat.reduceLT, Nat.reduceLeDiff, Int.reduceLT, Int.reduceLE, Int.reduceToNat, Int.reduceAdd, Int.reduceSub, Int.reduceMul, Int.reduceNeg, Int.reduceEq]
        | true =>
          simp (config := { contextual := true, maxSteps := 4000000 }) (disch := omega) only [go_sem, beq_self_eq_true, Nat.reduceBEq, ↓reduceIte, reduceCtorEq, Nat.reduceEqDiff, Nat.reduceAdd, Nat.reduceSub, Nat.reduceMul, Nat.reduceLT, Nat.reduceLeDiff, Int.reduceLT, Int.reduceLE, Int.reduceToNat, Int.reduceAdd, Int.reduceSub, Int.reduceMul, Int.reduceNeg, Int.reduceEq]
          refine ⟨j + 2, ⟨by omega, ?_⟩, by omega, .inl rfl, 0, rfl⟩
          simp [prevK, hp]
  · obtain rfl : k = l.length := by omega
    simp (config := { contextual := true, maxSteps := 4000000 }) (disch := omega) only [go_sem, beq_self_eq_true, Nat.reduceBEq, ↓reduceIte, reduceCtorEq, Nat.reduceEqDiff, Nat.reduceAdd, Nat.reduceSub, Nat.reduceMul, Nat.reduceLT, Nat.reduceLeDiff, Int.reduceLT, Int.reduceLE, Int.reduceToNat, Int.reduceAdd, Int.reduceSub, Int.reduceMul, Int.reduceNeg, Int.reduceEq, List.drop_length, lrFrom]
theorem lright_one (p : Pair) : lright [p] = decide (p.key.length ≤ 16 ∧ p.value.length ≤ 32) := by
  simp [lright, lrFrom]
theorem flat_pair (p : Pair) : APure Try.prog 27 [p.av] (boolA (pright p)) := by
  refine i27 rfl (by simp) (W.go 200 ?_)
  simp (config := { contextual := true, maxSteps := 4000000 }) (disch := omega) only [go_sem, beq_self_eq_true, Nat.reduceBEq, ↓reduceIte, reduceCtorEq, Nat.reduceEqDiff, Nat.reduceAdd, Nat.reduceSub, Nat.reduceMul, Nat.reduceLT, Nat.reduceLeDiff, Int.reduceLT, Int.reduceLE, Int.reduceToNat, Int.reduceAdd, Int.reduceSub, Int.reduceMul, Int.reduceNeg, Int.reduceEq]
  intro b
  refine CallG.pure (leaf_Right [p] (by simp)) (W.go 200 ?_)
  rw [lright_one]
  simp (config := { contextual := true, maxSteps := 4000000 }) (disch := omega) only [go_sem, beq_self_eq_true, Nat.reduceBEq, ↓reduceIte, reduceCtorEq, Nat.reduceEqDiff, Nat.reduceAdd, Nat.reduceSub, Nat.reduceMul, Nat.reduceLT, Nat.reduceLeDiff, Int.reduceLT, Int.reduceLE, Int.reduceToNat, Int.reduceAdd, Int.reduceSub, Int.reduceMul, Int.reduceNeg, Int.reduceEq, pright]
theorem flat_May (c : Change) : APure Try.prog 30 [c.av] (boolA (cmay c)) := by
  refine i30 rfl (by simp) (W.go 200 ?_)
  simp (config := { contextual := true, maxSteps := 4000000 }) (disch := omega) only [go_sem, beq_self_eq_true, Nat.reduceBEq, ↓reduceIte, reduceCtorEq, Nat.reduceEqDiff, Nat.reduceAdd, Nat.reduceSub, Nat.reduceMul, Nat.reduceLT, Nat.reduceLeDiff, Int.reduceLT, Int.reduceLE, Int.reduceToNat, Int.reduceAdd, Int.reduceSub, Int.reduceMul, Int.reduceNeg, Int.reduceEq]
  intro b
  refine CallG.pure (leaf_Right [⟨c.key, c.before⟩] (by simp)) (W.go 200 ?_)
  rw [lright_one]
  by_cases h1 : c.key.length ≤ 16 ∧ c.before.length ≤ 32
  · rw [decide_eq_true h1]
    simp (config := { contextual := true, maxSteps := 4000000 }) (disch := omega) only [go_sem, beq_self_eq_true, Nat.reduceBEq, ↓reduceIte, reduceCtorEq, Nat.reduceEqDiff, Nat.reduceAdd, Nat.reduceSub, Nat.reduceMul, Nat.reduceLT, Nat.reduceLeDiff, Int.reduceLT, Int.reduceLE, Int.reduceToNat, Int.reduceAdd, Int.reduceSub, Int.reduceMul, Int.reduceNeg, Int.reduceEq]
    refine CallG.pure (leaf_Right [⟨c.key, c.after⟩] (by simp)) (W.go 200 ?_)
    rw [lright_one]
    by_cases h2 : c.key.length ≤ 16 ∧ c.after.length ≤ 32
    · rw [decide_eq_true h2]
      simp (config := { contextual := true, maxSteps := 4000000 }) (disch := omega) only [go_sem, beq_self_eq_true, Nat.reduceBEq, ↓reduceIte, reduceCtorEq, Nat.reduceEqDiff, Nat.reduceAdd, Nat.reduceSub, Nat.reduceMul, Nat.reduceLT, Nat.reduceLeDiff, Int.reduceLT, Int.reduceLE, Int.reduceToNat, Int.reduceAdd, Int.reduceSub, Int.reduceMul, Int.reduceNeg, Int.reduceEq]
      have e : cmay c = decide ((1 ≤ c.seq ∧ c.seq ≤ 2147483647) ∧ (c.had = true ∨ c.before = []) ∧ (c.has = true ∨ c.after = []) ∧ (c.had = true ∨ c.has = true)) := by
        unfold cmay; congr 1; simp only [eq_iff_iff]; exact ⟨fun h => h.2, fun h => ⟨⟨h1.1, h1.2, h2.2⟩, h⟩⟩
      rw [e]
      clear e
      generalize c.seq = q
      by_cases k1 : 1 ≤ q <;> by_cases k2 : q ≤ 2147483647 <;> by_cases k3 : c.before = [] <;> by_cases k4 : c.after = [] <;> cases c.had <;> cases c.has <;> simp [k1, k2, k3, k4, sp]
    · rw [decide_eq_false h2]
      have e : cmay c = false := by
        unfold cmay; rw [decide_eq_false]; exact fun h => h2 ⟨h.1.1, h.1.2.2⟩
      rw [e]
      simp (config := { contextual := true, maxSteps := 4000000 }) (disch := omega) only [go_sem, beq_self_eq_true, Nat.reduceBEq, ↓reduceIte, reduceCtorEq, Nat.reduceEqDiff, Nat.reduceAdd, Nat.reduceSub, Nat.reduceMul, Nat.reduceLT, Nat.reduceLeDiff, Int.reduceLT, Int.reduceLE, Int.reduceToNat, Int.reduceAdd, Int.reduceSub, Int.reduceMul, Int.reduceNeg, Int.reduceEq]
  · rw [decide_eq_false h1]
    have e : cmay c = false := by
      unfold cmay; rw [decide_eq_false]; exact fun h => h1 ⟨h.1.1, h.1.2.1⟩
    rw [e]
    simp (config := { contextual := true, maxSteps := 4000000 }) (disch := omega) only [go_sem, beq_self_eq_true, Nat.reduceBEq, ↓reduceIte, reduceCtorEq, Nat.reduceEqDiff, Nat.reduceAdd, Nat.reduceSub, Nat.reduceMul, Nat.reduceLT, Nat.reduceLeDiff, Int.reduceLT, Int.reduceLE, Int.reduceToNat, Int.reduceAdd, Int.reduceSub, Int.reduceMul, Int.reduceNeg, Int.reduceEq]
theorem stretch_Right (lo hi : List UInt8) (o : Bool) : APure Try.prog 33 [.agg [sA lo, sA hi, boolA o]] (boolA (decide (lo.length ≤ 16 ∧ hi.length ≤ 17 ∧ (o = false ∨ hi = [])))) := by
  refine i33 rfl (by simp) (W.go 200 ?_)
  simp (config := { contextual := true, maxSteps := 4000000 }) (disch := omega) only [go_sem, beq_self_eq_true, Nat.reduceBEq, ↓reduceIte, reduceCtorEq, Nat.reduceEqDiff, Nat.reduceAdd, Nat.reduceSub, Nat.reduceMul, Nat.reduceLT, Nat.reduceLeDiff, Int.reduceLT, Int.reduceLE, Int.reduceToNat, Int.reduceAdd, Int.reduceSub, Int.reduceMul, Int.reduceNeg, Int.reduceEq]
  by_cases k1 : lo.length ≤ 16 <;> by_cases k2 : hi.length ≤ 17 <;> by_cases k3 : hi = [] <;> cases o <;> simp [k1, k2, k3, sp] <;> omega
end Go.Ab
