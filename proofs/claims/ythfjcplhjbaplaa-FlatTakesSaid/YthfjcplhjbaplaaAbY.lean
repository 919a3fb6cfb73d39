/- What bytes begin with: the document's answers. -/
import Derived.Test.YthfjcplhjbaplaaAbX
namespace Go.Ab
open Go.Proofs
set_option linter.all false
set_option maxRecDepth 100000
set_option maxHeartbeats 4000000
theorem ref13_TakePair (s : List UInt8) (hs : s.length ≤ 2 ^ 40) : ∃ p : Pair, ((!(gP s).2.2 && pright (gP s).1) = true → p = (gP s).1) ∧ APure Try.prog 12 [sA s] (.tup [p.av, boolA (!(gP s).2.2 && pright (gP s).1)]) := by
  have ht := gP_tx s
  cases hb : (gP s).2.2 with
  | true =>
    rw [hb] at ht
    refine ⟨⟨[], []⟩, by simp, ?_⟩
    refine i12 rfl (by simp) (W.go 200 ?_)
    simp (config := { contextual := true, maxSteps := 4000000 }) (disch := omega) only [go_sem, beq_self_eq_true, Nat.reduceBEq, ↓reduceIte, reduceCtorEq, Nat.reduceEqDiff, Nat.reduceAdd, Nat.reduceSub, Nat.reduceMul, Nat.reduceLT, Nat.reduceLeDiff, Int.reduceLT, Int.reduceLE, Int.reduceToNat, Int.reduceAdd, Int.reduceSub, Int.reduceMul, Int.reduceNeg, Int.reduceEq]
    intro b
    refine CallG.pure (ref13_Texts s [0, 0] hs (by simp)) (W.go 200 ?_)
    rw [ht]
    simp (config := { contextual := true, maxSteps := 4000000 }) (disch := omega) only [go_sem, beq_self_eq_true, Nat.reduceBEq, ↓reduceIte, reduceCtorEq, Nat.reduceEqDiff, Nat.reduceAdd, Nat.reduceSub, Nat.reduceMul, Nat.reduceLT, Nat.reduceLeDiff, Int.reduceLT, Int.reduceLE, Int.reduceToNat, Int.reduceAdd, Int.reduceSub, Int.reduceMul, Int.reduceNeg, Int.reduceEq, tx13R]
  | false =>
    rw [hb] at ht
    refine ⟨(gP s).1, fun _ => rfl, ?_⟩
    refine i12 rfl (by simp) (W.go 200 ?_)
    simp (config := { contextual := true, maxSteps := 4000000 }) (disch := omega) only [go_sem, beq_self_eq_true, Nat.reduceBEq, ↓reduceIte, reduceCtorEq, Nat.reduceEqDiff, Nat.reduceAdd, Nat.reduceSub, Nat.reduceMul, Nat.reduceLT, Nat.reduceLeDiff, Int.reduceLT, Int.reduceLE, Int.reduceToNat, Int.reduceAdd, Int.reduceSub, Int.reduceMul, Int.reduceNeg, Int.reduceEq]
    intro b
    refine CallG.pure (ref13_Texts s [0, 0] hs (by simp)) (W.go 200 ?_)
    rw [ht]
    generalize (gP s).1 = p
    simp (config := { contextual := true, maxSteps := 4000000 }) (disch := omega) only [go_sem, beq_self_eq_true, Nat.reduceBEq, ↓reduceIte, reduceCtorEq, Nat.reduceEqDiff, Nat.reduceAdd, Nat.reduceSub, Nat.reduceMul, Nat.reduceLT, Nat.reduceLeDiff, Int.reduceLT, Int.reduceLE, Int.reduceToNat, Int.reduceAdd, Int.reduceSub, Int.reduceMul, Int.reduceNeg, Int.reduceEq, tx13R]
    intro b1
    refine CallG.pure (ref10_Right p) (W.go 200 ?_)
    simp (config := { contextual := true, maxSteps := 4000000 }) (disch := omega) only [go_sem, beq_self_eq_true, Nat.reduceBEq, ↓reduceIte, reduceCtorEq, Nat.reduceEqDiff, Nat.reduceAdd, Nat.reduceSub, Nat.reduceMul, Nat.reduceLT, Nat.reduceLeDiff, Int.reduceLT, Int.reduceLE, Int.reduceToNat, Int.reduceAdd, Int.reduceSub, Int.reduceMul, Int.reduceNeg, Int.reduceEq]
theorem ref13_TakeNote (s : List UInt8) (hs : s.length ≤ 2 ^ 40) : ∃ p : Note, ((!(gN s).2.2 && nright (gN s).1) = true → p = (gN s).1) ∧ APure Try.prog 11 [sA s] (.tup [p.av, boolA (!(gN s).2.2 && nright (gN s).1)]) := by
  rcases gN_tx s with ⟨ht, hb⟩ | ⟨ht, l1, l2, l3, l4, hk, hr⟩
  · rw [hb]
    refine ⟨⟨0, [], [], 0⟩, by simp, ?_⟩
    refine i11 rfl (by simp) (W.go 200 ?_)
    simp (config := { contextual := true, maxSteps := 4000000 }) (disch := omega) only [go_sem, beq_self_eq_true, Nat.reduceBEq, ↓reduceIte, reduceCtorEq, Nat.reduceEqDiff, Nat.reduceAdd, Nat.reduceSub, Nat.reduceMul, Nat.reduceLT, Nat.reduceLeDiff, Int.reduceLT, Int.reduceLE, Int.reduceToNat, Int.reduceAdd, Int.reduceSub, Int.reduceMul, Int.reduceNeg, Int.reduceEq]
    intro b
    refine CallG.pure (ref13_Texts s [1, 0] hs (by simp)) (W.go 200 ?_)
    rw [ht]
    simp (config := { contextual := true, maxSteps := 4000000 }) (disch := omega) only [go_sem, beq_self_eq_true, Nat.reduceBEq, ↓reduceIte, reduceCtorEq, Nat.reduceEqDiff, Nat.reduceAdd, Nat.reduceSub, Nat.reduceMul, Nat.reduceLT, Nat.reduceLeDiff, Int.reduceLT, Int.reduceLE, Int.reduceToNat, Int.reduceAdd, Int.reduceSub, Int.reduceMul, Int.reduceNeg, Int.reduceEq, tx13R]
  · have hback := gN_back s
    generalize gN s = g at *
    obtain ⟨⟨kind, key, value, n⟩, rest, bad⟩ := g
    simp only at *
    subst hk
    have hn : n < 18446744073709551616 := by have := rnum_lt (s.drop (5 + key.length + value.length)) 8; rw [hr] at this; simpa using this
    by_cases c : s.length < 13 + key.length + value.length
    · have hbad : bad = true := by rw [rnum_bad _ 8 (by rw [List.length_drop]; omega)] at hr; simp at hr; exact hr.2.2
      have c' : (s.length : Int) < 13 + key.length + value.length := by omega
      subst hbad
      refine ⟨⟨0, [], [], 0⟩, by simp, ?_⟩
      refine i11 rfl (by simp) (W.go 200 ?_)
      simp (config := { contextual := true, maxSteps := 4000000 }) (disch := omega) only [go_sem, beq_self_eq_true, Nat.reduceBEq, ↓reduceIte, reduceCtorEq, Nat.reduceEqDiff, Nat.reduceAdd, Nat.reduceSub, Nat.reduceMul, Nat.reduceLT, Nat.reduceLeDiff, Int.reduceLT, Int.reduceLE, Int.reduceToNat, Int.reduceAdd, Int.reduceSub, Int.reduceMul, Int.reduceNeg, Int.reduceEq]
      intro b
      refine CallG.pure (ref13_Texts s [1, 0] hs (by simp)) (W.go 200 ?_)
      rw [ht]
      simp (config := { contextual := true, maxSteps := 4000000 }) (disch := omega) only [go_sem, beq_self_eq_true, Nat.reduceBEq, ↓reduceIte, reduceCtorEq, Nat.reduceEqDiff, Nat.reduceAdd, Nat.reduceSub, Nat.reduceMul, Nat.reduceLT, Nat.reduceLeDiff, Int.reduceLT, Int.reduceLE, Int.reduceToNat, Int.reduceAdd, Int.reduceSub, Int.reduceMul, Int.reduceNeg, Int.reduceEq, tx13R, c']
    · have hbad : bad = false := by rw [rnum_ok _ 8 (by rw [List.length_drop]; omega)] at hr; simp at hr; exact hr.2.2
      have c' : ¬ (s.length : Int) < 13 + key.length + value.length := by omega
      subst hbad
      have hb := hback rfl
      have hkl := (s.getD 0 0).toNat_lt
      refine ⟨⟨((s.getD 0 0).toNat : Nat), key, value, n⟩, fun _ => rfl, ?_⟩
      refine i11 rfl (by simp) (W.go 200 ?_)
      simp (config := { contextual := true, maxSteps := 4000000 }) (disch := omega) only [go_sem, beq_self_eq_true, Nat.reduceBEq, ↓reduceIte, reduceCtorEq, Nat.reduceEqDiff, Nat.reduceAdd, Nat.reduceSub, Nat.reduceMul, Nat.reduceLT, Nat.reduceLeDiff, Int.reduceLT, Int.reduceLE, Int.reduceToNat, Int.reduceAdd, Int.reduceSub, Int.reduceMul, Int.reduceNeg, Int.reduceEq]
      intro b
      refine CallG.pure (ref13_Texts s [1, 0] hs (by simp)) (W.go 200 ?_)
      rw [ht]
      have e1 : (5 + (key.length : Int) + value.length).toNat = 5 + key.length + value.length := by omega
      simp (config := { contextual := true, maxSteps := 4000000 }) (disch := omega) only [go_sem, beq_self_eq_true, Nat.reduceBEq, ↓reduceIte, reduceCtorEq, Nat.reduceEqDiff, Nat.reduceAdd, Nat.reduceSub, Nat.reduceMul, Nat.reduceLT, Nat.reduceLeDiff, Int.reduceLT, Int.reduceLE, Int.reduceToNat, Int.reduceAdd, Int.reduceSub, Int.reduceMul, Int.reduceNeg, Int.reduceEq, tx13R, c', e1]
      rw [List.take_length]
      refine CallD.pure (ref01_Take (s.drop (5 + key.length + value.length)) 8 (by omega) (by omega)) (W.go 200 ?_)
      rw [hr]
      simp (config := { contextual := true, maxSteps := 4000000 }) (disch := omega) only [go_sem, beq_self_eq_true, Nat.reduceBEq, ↓reduceIte, reduceCtorEq, Nat.reduceEqDiff, Nat.reduceAdd, Nat.reduceSub, Nat.reduceMul, Nat.reduceLT, Nat.reduceLeDiff, Int.reduceLT, Int.reduceLE, Int.reduceToNat, Int.reduceAdd, Int.reduceSub, Int.reduceMul, Int.reduceNeg, Int.reduceEq]
      intro b1
      refine CallG.pure (ref09_Right ⟨((s.getD 0 0).toNat : Nat), key, value, n⟩) (W.go 200 ?_)
      cases hm : nright ⟨((s.getD 0 0).toNat : Nat), key, value, n⟩ with
      | false => simp (config := { contextual := true, maxSteps := 4000000 }) (disch := omega) only [go_sem, beq_self_eq_true, Nat.reduceBEq, ↓reduceIte, reduceCtorEq, Nat.reduceEqDiff, Nat.reduceAdd, Nat.reduceSub, Nat.reduceMul, Nat.reduceLT, Nat.reduceLeDiff, Int.reduceLT, Int.reduceLE, Int.reduceToNat, Int.reduceAdd, Int.reduceSub, Int.reduceMul, Int.reduceNeg, Int.reduceEq]
      | true =>
        simp (config := { contextual := true, maxSteps := 4000000 }) (disch := omega) only [go_sem, beq_self_eq_true, Nat.reduceBEq, ↓reduceIte, reduceCtorEq, Nat.reduceEqDiff, Nat.reduceAdd, Nat.reduceSub, Nat.reduceMul, Nat.reduceLT, Nat.reduceLeDiff, Int.reduceLT, Int.reduceLE, Int.reduceToNat, Int.reduceAdd, Int.reduceSub, Int.reduceMul, Int.reduceNeg, Int.reduceEq]
        refine CallD.pure (ref13_Note ⟨((s.getD 0 0).toNat : Nat), key, value, n⟩ (by simp only; omega) l3 l4 hn) (W.go 200 ?_)
        simp (config := { contextual := true, maxSteps := 4000000 }) (disch := omega) only [go_sem, beq_self_eq_true, Nat.reduceBEq, ↓reduceIte, reduceCtorEq, Nat.reduceEqDiff, Nat.reduceAdd, Nat.reduceSub, Nat.reduceMul, Nat.reduceLT, Nat.reduceLeDiff, Int.reduceLT, Int.reduceLE, Int.reduceToNat, Int.reduceAdd, Int.reduceSub, Int.reduceMul, Int.reduceNeg, Int.reduceEq]
        refine CallD.pure (ref13_begins s _) (W.go 200 ?_)
        have hp : decide ((encN ⟨((s.getD 0 0).toNat : Nat), key, value, n⟩).length ≤ s.length ∧ s.take (encN ⟨((s.getD 0 0).toNat : Nat), key, value, n⟩).length = encN ⟨((s.getD 0 0).toNat : Nat), key, value, n⟩) = true := by
          generalize encN ⟨((s.getD 0 0).toNat : Nat), key, value, n⟩ = E at hb
          rw [decide_eq_true]
          rw [← hb]
          simp
        rw [hp]
        simp (config := { contextual := true, maxSteps := 4000000 }) (disch := omega) only [go_sem, beq_self_eq_true, Nat.reduceBEq, ↓reduceIte, reduceCtorEq, Nat.reduceEqDiff, Nat.reduceAdd, Nat.reduceSub, Nat.reduceMul, Nat.reduceLT, Nat.reduceLeDiff, Int.reduceLT, Int.reduceLE, Int.reduceToNat, Int.reduceAdd, Int.reduceSub, Int.reduceMul, Int.reduceNeg, Int.reduceEq]
theorem ref13_TakeChange (s : List UInt8) (hs : s.length ≤ 2 ^ 40) : ∃ p : Change, ((!(gC s).2.2 && cmay (gC s).1) = true → p = (gC s).1) ∧ APure Try.prog 13 [sA s] (.tup [p.av, boolA (!(gC s).2.2 && cmay (gC s).1)]) := by
  rcases gC_tx s with ⟨ht, hb⟩ | ⟨ht, l1, l2, l3, l4, l5, hq, hh1, hh2⟩
  · rw [hb]
    refine ⟨⟨0, [], false, [], false, []⟩, by simp, ?_⟩
    refine i13 rfl (by simp) (W.go 200 ?_)
    simp (config := { contextual := true, maxSteps := 4000000 }) (disch := omega) only [go_sem, beq_self_eq_true, Nat.reduceBEq, ↓reduceIte, reduceCtorEq, Nat.reduceEqDiff, Nat.reduceAdd, Nat.reduceSub, Nat.reduceMul, Nat.reduceLT, Nat.reduceLeDiff, Int.reduceLT, Int.reduceLE, Int.reduceToNat, Int.reduceAdd, Int.reduceSub, Int.reduceMul, Int.reduceNeg, Int.reduceEq]
    intro b
    refine CallG.pure (ref13_Texts s [4, 1, 1] hs (by simp)) (W.go 200 ?_)
    rw [ht]
    simp (config := { contextual := true, maxSteps := 4000000 }) (disch := omega) only [go_sem, beq_self_eq_true, Nat.reduceBEq, ↓reduceIte, reduceCtorEq, Nat.reduceEqDiff, Nat.reduceAdd, Nat.reduceSub, Nat.reduceMul, Nat.reduceLT, Nat.reduceLeDiff, Int.reduceLT, Int.reduceLE, Int.reduceToNat, Int.reduceAdd, Int.reduceSub, Int.reduceMul, Int.reduceNeg, Int.reduceEq, tx13R]
  · have hback := gC_back s
    have hof := gC_of (gC s).1
    have hE : ∀ q, gC (encC (gC s).1 ++ q) = ((gC s).1, q, false) := fun q => hof q (by rw [hq]; have := val_lt (s.take 4); rw [List.length_take, Nat.min_eq_left l1] at this; omega) l3 l4 l5
    have hpre : decide ((encC (gC s).1).length ≤ s.length ∧ s.take (encC (gC s).1).length = encC (gC s).1) = !(gC s).2.2 := by
      cases hb : (gC s).2.2 with
      | false =>
        have e := hback hb
        generalize encC (gC s).1 = E at e
        simp only [Bool.not_false, decide_eq_true_eq]
        conv => enter [1, 2]; rw [← e]
        refine ⟨by simp, ?_⟩
        conv => lhs; rw [← e]
        simp
      | true =>
        rw [decide_eq_false]; · rfl
        rintro ⟨_, h2⟩
        have := hE (s.drop (encC (gC s).1).length)
        have e : encC (gC s).1 ++ s.drop (encC (gC s).1).length = s := by conv => lhs; lhs; rw [← h2]
                                                                          exact List.take_append_drop _ _
        rw [e] at this
        rw [this] at hb
        cases hb
    clear hback hof hE
    have hlen : 0 ≤ (gC s).1.seq ∧ (gC s).1.seq < 4294967296 := by rw [hq]; have := val_lt (s.take 4); rw [List.length_take, Nat.min_eq_left l1] at this; omega
    generalize (gC s).2.2 = bad at *
    generalize (gC s).1 = g at *
    obtain ⟨seq, key, had, before, has, after⟩ := g
    simp only at *
    subst hq
    refine ⟨⟨(val (s.take 4) : Nat), key, had, before, has, after⟩, fun _ => rfl, ?_⟩
    refine i13 rfl (by simp) (W.go 200 ?_)
    simp (config := { contextual := true, maxSteps := 4000000 }) (disch := omega) only [go_sem, beq_self_eq_true, Nat.reduceBEq, ↓reduceIte, reduceCtorEq, Nat.reduceEqDiff, Nat.reduceAdd, Nat.reduceSub, Nat.reduceMul, Nat.reduceLT, Nat.reduceLeDiff, Int.reduceLT, Int.reduceLE, Int.reduceToNat, Int.reduceAdd, Int.reduceSub, Int.reduceMul, Int.reduceNeg, Int.reduceEq]
    intro b
    refine CallG.pure (ref13_Texts s [4, 1, 1] hs (by simp)) (W.go 200 ?_)
    rw [ht]
    simp (config := { contextual := true, maxSteps := 4000000 }) (disch := omega) only [go_sem, beq_self_eq_true, Nat.reduceBEq, ↓reduceIte, reduceCtorEq, Nat.reduceEqDiff, Nat.reduceAdd, Nat.reduceSub, Nat.reduceMul, Nat.reduceLT, Nat.reduceLeDiff, Int.reduceLT, Int.reduceLE, Int.reduceToNat, Int.reduceAdd, Int.reduceSub, Int.reduceMul, Int.reduceNeg, Int.reduceEq, tx13R]
    refine CallG.pure (ref01_Take s 4 (by omega) (by omega)) (W.go 200 ?_)
    rw [rnum_ok s 4 l1]
    have e1 : (6 + (key.length : Int)).toNat = 6 + key.length := by omega
    have e2 : (6 + (key.length : Int) + 3 + before.length).toNat = 9 + key.length + before.length := by omega
    have e3 : (decide (((s.getD (6 + key.length) 0).toNat : Int) = 1)) = had := by rw [hh1, Bool.eq_iff_iff]; simp; omega
    have e4 : (decide (((s.getD (9 + key.length + before.length) 0).toNat : Int) = 1)) = has := by rw [hh2, Bool.eq_iff_iff]; simp; omega
    simp (config := { contextual := true, maxSteps := 4000000 }) (disch := omega) only [go_sem, beq_self_eq_true, Nat.reduceBEq, ↓reduceIte, reduceCtorEq, Nat.reduceEqDiff, Nat.reduceAdd, Nat.reduceSub, Nat.reduceMul, Nat.reduceLT, Nat.reduceLeDiff, Int.reduceLT, Int.reduceLE, Int.reduceToNat, Int.reduceAdd, Int.reduceSub, Int.reduceMul, Int.reduceNeg, Int.reduceEq, e1, e2, e3, e4]
    intro b1
    refine CallG.pure (ref13_May ⟨(val (s.take 4) : Nat), key, had, before, has, after⟩) (W.go 200 ?_)
    cases hm : cmay ⟨(val (s.take 4) : Nat), key, had, before, has, after⟩ with
    | false => simp (config := { contextual := true, maxSteps := 4000000 }) (disch := omega) only [go_sem, beq_self_eq_true, Nat.reduceBEq, ↓reduceIte, reduceCtorEq, Nat.reduceEqDiff, Nat.reduceAdd, Nat.reduceSub, Nat.reduceMul, Nat.reduceLT, Nat.reduceLeDiff, Int.reduceLT, Int.reduceLE, Int.reduceToNat, Int.reduceAdd, Int.reduceSub, Int.reduceMul, Int.reduceNeg, Int.reduceEq]
    | true =>
      simp (config := { contextual := true, maxSteps := 4000000 }) (disch := omega) only [go_sem, beq_self_eq_true, Nat.reduceBEq, ↓reduceIte, reduceCtorEq, Nat.reduceEqDiff, Nat.reduceAdd, Nat.reduceSub, Nat.reduceMul, Nat.reduceLT, Nat.reduceLeDiff, Int.reduceLT, Int.reduceLE, Int.reduceToNat, Int.reduceAdd, Int.reduceSub, Int.reduceMul, Int.reduceNeg, Int.reduceEq]
      refine CallD.pure (ref13_Change ⟨(val (s.take 4) : Nat), key, had, before, has, after⟩ hlen l3 l4 l5) (W.go 200 ?_)
      simp (config := { contextual := true, maxSteps := 4000000 }) (disch := omega) only [go_sem, beq_self_eq_true, Nat.reduceBEq, ↓reduceIte, reduceCtorEq, Nat.reduceEqDiff, Nat.reduceAdd, Nat.reduceSub, Nat.reduceMul, Nat.reduceLT, Nat.reduceLeDiff, Int.reduceLT, Int.reduceLE, Int.reduceToNat, Int.reduceAdd, Int.reduceSub, Int.reduceMul, Int.reduceNeg, Int.reduceEq]
      refine CallD.pure (ref13_begins s _) (W.go 200 ?_)
      rw [hpre]
      simp (config := { contextual := true, maxSteps := 4000000 }) (disch := omega) only [go_sem, beq_self_eq_true, Nat.reduceBEq, ↓reduceIte, reduceCtorEq, Nat.reduceEqDiff, Nat.reduceAdd, Nat.reduceSub, Nat.reduceMul, Nat.reduceLT, Nat.reduceLeDiff, Int.reduceLT, Int.reduceLE, Int.reduceToNat, Int.reduceAdd, Int.reduceSub, Int.reduceMul, Int.reduceNeg, Int.reduceEq]
/-- the range that bytes begin with, the rest, and whether it is there -/
def takeR (s : List UInt8) : (List UInt8 × List UInt8 × Bool) × List UInt8 × Bool :=
  let b := rtext s; let c := rtext b.2.1; let d := rflag c.2.1
  match !(b.2.2 || c.2.2 || d.2.2) && rright b.1 c.1 d.1 with
  | true => ((b.1, c.1, d.1), d.2.1, true)
  | false => (([], [], false), [], false)
theorem ref13_TakeRange (s : List UInt8) (hs : s.length ≤ 2 ^ 40) : APure Try.prog 9 [sA s] (.tup [rgA (takeR s).1.1 (takeR s).1.2.1 (takeR s).1.2.2, sA (takeR s).2.1, boolA (takeR s).2.2]) := by
  unfold takeR
  simp only
  have hx : ∀ q, tx13 [0, 0] s = q → (W Try.prog c9 (RP Try.prog [.cell 2 34, .tmp 3, .tmp 4] (boolA true)) [.code .skip] [] [] → True) := fun _ _ _ => trivial
  rcases rtext_two s with h | ⟨t, r, h, a1, a2, a3⟩
  · have ht : tx13 [0, 0] s = none := by simp [tx13, h]
    rw [h]
    simp only [Bool.true_or, Bool.not_true, Bool.false_and, Bool.false_eq_true, if_false]
    refine i9 rfl (by simp) (W.go 200 ?_)
    simp (config := { contextual := true, maxSteps := 4000000 }) (disch := omega) only [go_sem, beq_self_eq_true, Nat.reduceBEq, ↓reduceIte, reduceCtorEq, Nat.reduceEqDiff, Nat.reduceAdd, Nat.reduceSub, Nat.reduceMul, Nat.reduceLT, Nat.reduceLeDiff, Int.reduceLT, Int.reduceLE, Int.reduceToNat, Int.reduceAdd, Int.reduceSub, Int.reduceMul, Int.reduceNeg, Int.reduceEq]
    intro b
    refine CallG.pure (ref13_Texts s [0, 0] hs (by simp)) (W.go 200 ?_)
    rw [ht]
    simp (config := { contextual := true, maxSteps := 4000000 }) (disch := omega) only [go_sem, beq_self_eq_true, Nat.reduceBEq, ↓reduceIte, reduceCtorEq, Nat.reduceEqDiff, Nat.reduceAdd, Nat.reduceSub, Nat.reduceMul, Nat.reduceLT, Nat.reduceLeDiff, Int.reduceLT, Int.reduceLE, Int.reduceToNat, Int.reduceAdd, Int.reduceSub, Int.reduceMul, Int.reduceNeg, Int.reduceEq, tx13R]
  · rcases rtext_two r with h2 | ⟨t2, r2, h2, b1, b2, b3⟩
    · have ht : tx13 [0, 0] s = none := by simp [tx13, h, h2]
      rw [h]
      simp only [h2, Bool.true_or, Bool.or_true, Bool.not_true, Bool.false_and, Bool.false_eq_true, if_false]
      refine i9 rfl (by simp) (W.go 200 ?_)
      simp (config := { contextual := true, maxSteps := 4000000 }) (disch := omega) only [go_sem, beq_self_eq_true, Nat.reduceBEq, ↓reduceIte, reduceCtorEq, Nat.reduceEqDiff, Nat.reduceAdd, Nat.reduceSub, Nat.reduceMul, Nat.reduceLT, Nat.reduceLeDiff, Int.reduceLT, Int.reduceLE, Int.reduceToNat, Int.reduceAdd, Int.reduceSub, Int.reduceMul, Int.reduceNeg, Int.reduceEq]
      intro b
      refine CallG.pure (ref13_Texts s [0, 0] hs (by simp)) (W.go 200 ?_)
      rw [ht]
      simp (config := { contextual := true, maxSteps := 4000000 }) (disch := omega) only [go_sem, beq_self_eq_true, Nat.reduceBEq, ↓reduceIte, reduceCtorEq, Nat.reduceEqDiff, Nat.reduceAdd, Nat.reduceSub, Nat.reduceMul, Nat.reduceLT, Nat.reduceLeDiff, Int.reduceLT, Int.reduceLE, Int.reduceToNat, Int.reduceAdd, Int.reduceSub, Int.reduceMul, Int.reduceNeg, Int.reduceEq, tx13R]
    · have ht : tx13 [0, 0] s = some [t, t2] := by simp [tx13, h, h2]
      have lr : r.length = s.length - (2 + t.length) := by rw [a1, List.length_drop]
      have dr2 : r2 = s.drop (4 + t.length + t2.length) := by rw [b1, a1, List.drop_drop]; congr 1; omega
      have lr2 : r2.length = s.length - (4 + t.length + t2.length) := by rw [dr2, List.length_drop]
      rw [h]
      simp only [h2, Bool.false_or]
      have e1 : (4 + (t.length : Int) + t2.length).toNat = 4 + t.length + t2.length := by omega
      have e3 : (4 + (t.length : Int) + t2.length + 1).toNat = 4 + t.length + t2.length + 1 := by omega
      rcases rflag_two r2 with ⟨c3, f⟩ | ⟨c3, f⟩
      · rw [f]
        simp only [Bool.not_true, Bool.false_and, Bool.false_eq_true, if_false]
        have c' : (s.length : Int) ≤ 4 + t.length + t2.length := by omega
        refine i9 rfl (by simp) (W.go 200 ?_)
        simp (config := { contextual := true, maxSteps := 4000000 }) (disch := omega) only [go_sem, beq_self_eq_true, Nat.reduceBEq, ↓reduceIte, reduceCtorEq, Nat.reduceEqDiff, Nat.reduceAdd, Nat.reduceSub, Nat.reduceMul, Nat.reduceLT, Nat.reduceLeDiff, Int.reduceLT, Int.reduceLE, Int.reduceToNat, Int.reduceAdd, Int.reduceSub, Int.reduceMul, Int.reduceNeg, Int.reduceEq]
        intro b
        refine CallG.pure (ref13_Texts s [0, 0] hs (by simp)) (W.go 200 ?_)
        rw [ht]
        simp (config := { contextual := true, maxSteps := 4000000 }) (disch := omega) only [go_sem, beq_self_eq_true, Nat.reduceBEq, ↓reduceIte, reduceCtorEq, Nat.reduceEqDiff, Nat.reduceAdd, Nat.reduceSub, Nat.reduceMul, Nat.reduceLT, Nat.reduceLeDiff, Int.reduceLT, Int.reduceLE, Int.reduceToNat, Int.reduceAdd, Int.reduceSub, Int.reduceMul, Int.reduceNeg, Int.reduceEq, tx13R, c']
      · have i2 : r2.getD 0 0 = s.getD (4 + t.length + t2.length) 0 := by rw [dr2]; simp [List.getD_eq_getElem?_getD]
        have i3 : r2.drop 1 = s.drop (4 + t.length + t2.length + 1) := by rw [dr2, List.drop_drop]
        have c' : ¬ (s.length : Int) ≤ 4 + t.length + t2.length := by omega
        rw [f, i2, i3]
        simp only
        have hx := (s.getD (4 + t.length + t2.length) 0).toNat_lt
        by_cases k1 : (s.getD (4 + t.length + t2.length) 0).toNat > 1
        · rw [decide_eq_true k1]
          simp only [Bool.not_true, Bool.false_and, Bool.false_eq_true, if_false]
          have k1' : (1 : Int) < ((s.getD (4 + t.length + t2.length) 0).toNat : Int) := by omega
          refine i9 rfl (by simp) (W.go 200 ?_)
          simp (config := { contextual := true, maxSteps := 4000000 }) (disch := omega) only [go_sem, beq_self_eq_true, Nat.reduceBEq, ↓reduceIte, reduceCtorEq, Nat.reduceEqDiff, Nat.reduceAdd, Nat.reduceSub, Nat.reduceMul, Nat.reduceLT, Nat.reduceLeDiff, Int.reduceLT, Int.reduceLE, Int.reduceToNat, Int.reduceAdd, Int.reduceSub, Int.reduceMul, Int.reduceNeg, Int.reduceEq]
          intro b
          refine CallG.pure (ref13_Texts s [0, 0] hs (by simp)) (W.go 200 ?_)
          rw [ht]
          simp (config := { contextual := true, maxSteps := 4000000 }) (disch := omega) only [go_sem, beq_self_eq_true, Nat.reduceBEq, ↓reduceIte, reduceCtorEq, Nat.reduceEqDiff, Nat.reduceAdd, Nat.reduceSub, Nat.reduceMul, Nat.reduceLT, Nat.reduceLeDiff, Int.reduceLT, Int.reduceLE, Int.reduceToNat, Int.reduceAdd, Int.reduceSub, Int.reduceMul, Int.reduceNeg, Int.reduceEq, tx13R, c', e1, k1']
        · rw [decide_eq_false k1]
          simp only [Bool.not_false, Bool.true_and]
          have k1' : ¬ (1 : Int) < ((s.getD (4 + t.length + t2.length) 0).toNat : Int) := by omega
          have e4 : (decide (((s.getD (4 + t.length + t2.length) 0).toNat : Int) = 1)) = ((s.getD (4 + t.length + t2.length) 0).toNat == 1) := by rw [Bool.eq_iff_iff]; simp; omega
          refine i9 rfl (by simp) (W.go 200 ?_)
          simp (config := { contextual := true, maxSteps := 4000000 }) (disch := omega) only [go_sem, beq_self_eq_true, Nat.reduceBEq, ↓reduceIte, reduceCtorEq, Nat.reduceEqDiff, Nat.reduceAdd, Nat.reduceSub, Nat.reduceMul, Nat.reduceLT, Nat.reduceLeDiff, Int.reduceLT, Int.reduceLE, Int.reduceToNat, Int.reduceAdd, Int.reduceSub, Int.reduceMul, Int.reduceNeg, Int.reduceEq]
          intro b
          refine CallG.pure (ref13_Texts s [0, 0] hs (by simp)) (W.go 200 ?_)
          rw [ht]
          simp (config := { contextual := true, maxSteps := 4000000 }) (disch := omega) only [go_sem, beq_self_eq_true, Nat.reduceBEq, ↓reduceIte, reduceCtorEq, Nat.reduceEqDiff, Nat.reduceAdd, Nat.reduceSub, Nat.reduceMul, Nat.reduceLT, Nat.reduceLeDiff, Int.reduceLT, Int.reduceLE, Int.reduceToNat, Int.reduceAdd, Int.reduceSub, Int.reduceMul, Int.reduceNeg, Int.reduceEq, tx13R, c', e1, k1', e4]
          generalize ((s.getD (4 + t.length + t2.length) 0).toNat == 1) = o
          intro b2
          refine CallG.pure (ref03_Right t t2 o) (W.go 200 ?_)
          cases rright t t2 o with
          | false => simp (config := { contextual := true, maxSteps := 4000000 }) (disch := omega) only [go_sem, beq_self_eq_true, Nat.reduceBEq, ↓reduceIte, reduceCtorEq, Nat.reduceEqDiff, Nat.reduceAdd, Nat.reduceSub, Nat.reduceMul, Nat.reduceLT, Nat.reduceLeDiff, Int.reduceLT, Int.reduceLE, Int.reduceToNat, Int.reduceAdd, Int.reduceSub, Int.reduceMul, Int.reduceNeg, Int.reduceEq]
          | true =>
            simp (config := { contextual := true, maxSteps := 4000000 }) (disch := omega) only [go_sem, beq_self_eq_true, Nat.reduceBEq, ↓reduceIte, reduceCtorEq, Nat.reduceEqDiff, Nat.reduceAdd, Nat.reduceSub, Nat.reduceMul, Nat.reduceLT, Nat.reduceLeDiff, Int.reduceLT, Int.reduceLE, Int.reduceToNat, Int.reduceAdd, Int.reduceSub, Int.reduceMul, Int.reduceNeg, Int.reduceEq, e3]
            rw [List.take_length]
def errN : Bool → Int
  | true => 0
  | false => 2
attribute [go_sem] errN
theorem flat_TakeRange (s : List UInt8) (hs : s.length ≤ 2 ^ 40) : APure Try.prog 8 [sA s] (.tup [rgA (takeR s).1.1 (takeR s).1.2.1 (takeR s).1.2.2, sA (takeR s).2.1, iA (errN (takeR s).2.2)]) := by
  have h1 := rtext_le s
  have h2 := rtext_le (rtext s).2.1
  unfold takeR
  simp only
  refine i8 rfl (by simp) (W.go 200 ?_)
  simp (config := { contextual := true, maxSteps := 4000000 }) (disch := omega) only [go_sem, beq_self_eq_true, Nat.reduceBEq, ↓reduceIte, reduceCtorEq, Nat.reduceEqDiff, Nat.reduceAdd, Nat.reduceSub, Nat.reduceMul, Nat.reduceLT, Nat.reduceLeDiff, Int.reduceLT, Int.reduceLE, Int.reduceToNat, Int.reduceAdd, Int.reduceSub, Int.reduceMul, Int.reduceNeg, Int.reduceEq]
  intro b b1 b2
  refine CallG.mut (reader_text s hs false) rfl (W.go 200 ?_)
  simp (config := { contextual := true, maxSteps := 4000000 }) (disch := omega) only [go_sem, beq_self_eq_true, Nat.reduceBEq, ↓reduceIte, reduceCtorEq, Nat.reduceEqDiff, Nat.reduceAdd, Nat.reduceSub, Nat.reduceMul, Nat.reduceLT, Nat.reduceLeDiff, Int.reduceLT, Int.reduceLE, Int.reduceToNat, Int.reduceAdd, Int.reduceSub, Int.reduceMul, Int.reduceNeg, Int.reduceEq]
  refine CallG.mut (reader_text _ (by omega) _) rfl (W.go 200 ?_)
  simp (config := { contextual := true, maxSteps := 4000000 }) (disch := omega) only [go_sem, beq_self_eq_true, Nat.reduceBEq, ↓reduceIte, reduceCtorEq, Nat.reduceEqDiff, Nat.reduceAdd, Nat.reduceSub, Nat.reduceMul, Nat.reduceLT, Nat.reduceLeDiff, Int.reduceLT, Int.reduceLE, Int.reduceToNat, Int.reduceAdd, Int.reduceSub, Int.reduceMul, Int.reduceNeg, Int.reduceEq]
  refine CallG.mut (reader_flag _ _) rfl (W.go 200 ?_)
  generalize ((rtext s).2.2 || (rtext (rtext s).2.1).2.2 || (rflag (rtext (rtext s).2.1).2.1).2.2) = bad
  cases bad with
  | true => simp (config := { contextual := true, maxSteps := 4000000 }) (disch := omega) only [go_sem, beq_self_eq_true, Nat.reduceBEq, ↓reduceIte, reduceCtorEq, Nat.reduceEqDiff, Nat.reduceAdd, Nat.reduceSub, Nat.reduceMul, Nat.reduceLT, Nat.reduceLeDiff, Int.reduceLT, Int.reduceLE, Int.reduceToNat, Int.reduceAdd, Int.reduceSub, Int.reduceMul, Int.reduceNeg, Int.reduceEq]
  | false =>
    simp (config := { contextual := true, maxSteps := 4000000 }) (disch := omega) only [go_sem, beq_self_eq_true, Nat.reduceBEq, ↓reduceIte, reduceCtorEq, Nat.reduceEqDiff, Nat.reduceAdd, Nat.reduceSub, Nat.reduceMul, Nat.reduceLT, Nat.reduceLeDiff, Int.reduceLT, Int.reduceLE, Int.reduceToNat, Int.reduceAdd, Int.reduceSub, Int.reduceMul, Int.reduceNeg, Int.reduceEq]
    refine CallG.pure (stretch_Right _ _ _) (W.go 200 ?_)
    rw [show decide ((rtext s).1.length ≤ 16 ∧ (rtext (rtext s).2.1).1.length ≤ 17 ∧ ((rflag (rtext (rtext s).2.1).2.1).1 = false ∨ (rtext (rtext s).2.1).1 = [])) = rright (rtext s).1 (rtext (rtext s).2.1).1 (rflag (rtext (rtext s).2.1).2.1).1 from rfl]
    generalize rright (rtext s).1 (rtext (rtext s).2.1).1 (rflag (rtext (rtext s).2.1).2.1).1 = q
    cases q <;> simp (config := { contextual := true, maxSteps := 4000000 }) (disch := omega) only [go_sem, beq_self_eq_true, Nat.reduceBEq, ↓reduceIte, reduceCtorEq, Nat.reduceEqDiff, Nat.reduceAdd, Nat.reduceSub, Nat.reduceMul, Nat.reduceLT, Nat.reduceLeDiff, Int.reduceLT, Int.reduceLE, Int.reduceToNat, Int.reduceAdd, Int.reduceSub, Int.reduceMul, Int.reduceNeg, Int.reduceEq]
end Go.Ab
