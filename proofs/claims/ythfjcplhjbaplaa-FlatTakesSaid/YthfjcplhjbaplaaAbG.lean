/- What flat.take comes to, at each kind of thing. -/
import Derived.Test.YthfjcplhjbaplaaAbL
namespace Go.Ab
open Go.Proofs
set_option linter.all false
set_option maxRecDepth 100000
set_option maxHeartbeats 4000000
/-- what taking a list answers -/
def takeLP {α : Type} (g : List UInt8 → α × List UInt8 × Bool) (may : α → Bool) (s : List UInt8) : List α × List UInt8 × Int :=
  match takeL g may s with
  | some r => (r.1, r.2, 0)
  | none => ([], [], 2)
/-- what is answered, once some are taken -/
def takeEnd {α : Type} (bad : Bool) (out : List α) (o : Option (List α × List UInt8)) : List α × List UInt8 × Int :=
  if bad = true then ([], [], 2) else match o with
  | some r => (out ++ r.1, r.2, 0)
  | none => ([], [], 2)
theorem fz_map {α : Type} (hp : List Blk) (m g : Nat) (l : List α) (f : α → AV) (h : ∀ x, fz hp m g (f x) = some (f x)) : (l.map f).mapM (fz hp m g) = some (l.map f) := by
  induction l with
  | nil => rfl
  | cons a l ih => rw [List.map_cons, mapMc, h a, ih]; rfl
theorem takeLP_end {α : Type} (g : List UInt8 → α × List UInt8 × Bool) (may : α → Bool) (s : List UInt8) {N : Nat} {r0 : List UInt8} {b0 : Bool} (hr : rnum s 2 = (N, r0, b0)) :
    takeLP g may s = takeEnd b0 [] (takeN g may N r0) ∧ r0.length ≤ s.length ∧ N < 65536 ∧ (b0 = true → N = 0) := by
  have h1 := rnum_le s 2
  have h2 : (rnum s 2).1 < 65536 := rnum_lt s 2
  rw [hr] at h1 h2
  refine ⟨?_, h1, h2, ?_⟩
  · unfold takeLP takeL takeEnd
    unfold rnum at hr
    by_cases c : s.length < 2
    · rw [if_pos c] at hr; cases hr; rw [if_pos c]; rfl
    · rw [if_neg c] at hr; cases hr
      rw [if_neg c]
      simp only [Bool.false_eq_true, if_false]
      cases takeN g may (val (s.take 2)) (s.drop 2) <;> rfl
  · unfold rnum at hr
    by_cases c : s.length < 2
    · rw [if_pos c] at hr; cases hr; exact fun _ => rfl
    · rw [if_neg c] at hr; cases hr; exact nofun
theorem take_Note (s : List UInt8) (hs : s.length ≤ 2 ^ 40) : APure Try.prog 21 [sA s, .fn (.func 22) [] [], .fn (.func 23) [] []] (.tup [.sl 4 ((takeLP gN nright s).1.map Note.av), sA (takeLP gN nright s).2.1, iA (takeLP gN nright s).2.2]) := by
  refine i21 rfl (by simp) (W.go 60 ?_)
  simp (config := { contextual := true, maxSteps := 4000000 }) (disch := omega) only [go_sem, beq_self_eq_true, Nat.reduceBEq, ↓reduceIte, reduceCtorEq, Nat.reduceEqDiff, Nat.reduceAdd, Nat.reduceSub, Nat.reduceMul, Nat.reduceLT, Nat.reduceLeDiff, Int.reduceLT, Int.reduceLE, Int.reduceToNat, Int.reduceAdd, Int.reduceSub, Int.reduceMul, Int.reduceNeg, Int.reduceEq]
  intro b
  refine CallG.mut (reader_num s false 2 (by omega)) rfl (W.go 200 ?_)
  generalize hr : rnum s 2 = q
  obtain ⟨N, r0, b0⟩ := q
  obtain ⟨q1, q2, q3, q4⟩ := takeLP_end gN nright s hr
  rw [q1]
  clear q1 hr
  have hr0 : r0.length ≤ 2 ^ 40 := by omega
  clear q2 hs
  simp (config := { contextual := true, maxSteps := 4000000 }) (disch := omega) only [go_sem, beq_self_eq_true, Nat.reduceBEq, ↓reduceIte, reduceCtorEq, Nat.reduceEqDiff, Nat.reduceAdd, Nat.reduceSub, Nat.reduceMul, Nat.reduceLT, Nat.reduceLeDiff, Int.reduceLT, Int.reduceLE, Int.reduceToNat, Int.reduceAdd, Int.reduceSub, Int.reduceMul, Int.reduceNeg, Int.reduceEq]
  refine W.virt 10 4 45 rfl ?_
  simp (config := { contextual := true, maxSteps := 4000000 }) (disch := omega) only [go_sem, beq_self_eq_true, Nat.reduceBEq, ↓reduceIte, reduceCtorEq, Nat.reduceEqDiff, Nat.reduceAdd, Nat.reduceSub, Nat.reduceMul, Nat.reduceLT, Nat.reduceLeDiff, Int.reduceLT, Int.reduceLE, Int.reduceToNat, Int.reduceAdd, Int.reduceSub, Int.reduceMul, Int.reduceNeg, Int.reduceEq]
  refine W.loopS (fun x : Nat × List UInt8 × Bool × List Note × Option Nat => [(1, .fn (.func 22) [] []), (2, .fn (.func 23) [] []), (9, .ptr 0 2 (some b) 0 0), (10, .own 1 4 x.2.2.2.2 0 x.2.2.2.1.length), (16, uA N), (17, uA x.1)])
    (fun x => [⟨true, some b, 2, 79, [rdA x.2.1 x.2.2.1]⟩, ⟨true, x.2.2.2.2, 4, 45, x.2.2.2.1.map Note.av⟩])
    (fun x => x.1 ≤ N ∧ x.2.2.2.1.length = x.1 ∧ x.2.1.length ≤ 2 ^ 40 ∧ (x.2.2.1 = true → x.1 = N) ∧ takeEnd b0 [] (takeN gN nright N r0) = takeEnd x.2.2.1 x.2.2.2.1 (takeN gN nright (N - x.1) x.2.1)) (fun x => N - x.1)
    (0, r0, b0, [], none) ?_ rfl rfl ?_
  · exact ⟨Nat.zero_le _, rfl, hr0, fun h => (q4 h).symm, rfl⟩
  · rintro ⟨i, t, bad, out, o⟩ ⟨h1, h2, h3, h4, h5⟩
    simp only at h1 h2 h3 h4 h5
    refine W.go 200 ?_
    rw [h5]
    clear h5
    by_cases hi : i < N
    · obtain rfl : bad = false := by cases bad with | false => rfl | true => have := h4 rfl; omega
      obtain ⟨d, hd⟩ : ∃ d, N - i = d + 1 := ⟨N - i - 1, by omega⟩
      have hle := gN_le t
      simp (config := { contextual := true, maxSteps := 4000000 }) (disch := omega) only [go_sem, beq_self_eq_true, Nat.reduceBEq, ↓reduceIte, reduceCtorEq, Nat.reduceEqDiff, Nat.reduceAdd, Nat.reduceSub, Nat.reduceMul, Nat.reduceLT, Nat.reduceLeDiff, Int.reduceLT, Int.reduceLE, Int.reduceToNat, Int.reduceAdd, Int.reduceSub, Int.reduceMul, Int.reduceNeg, Int.reduceEq, hi]
      refine CallG.mut (take_note_get t h3) rfl (W.go 200 ?_)
      rw [hd, takeN]
      generalize hq : gN t = q at hle
      obtain ⟨y, t', bad'⟩ := q
      simp only at hle
      cases bad' with
      | true =>
        simp (config := { contextual := true, maxSteps := 4000000 }) (disch := omega) only [go_sem, beq_self_eq_true, Nat.reduceBEq, ↓reduceIte, reduceCtorEq, Nat.reduceEqDiff, Nat.reduceAdd, Nat.reduceSub, Nat.reduceMul, Nat.reduceLT, Nat.reduceLeDiff, Int.reduceLT, Int.reduceLE, Int.reduceToNat, Int.reduceAdd, Int.reduceSub, Int.reduceMul, Int.reduceNeg, Int.reduceEq, takeEnd]
      | false =>
        simp (config := { contextual := true, maxSteps := 4000000 }) (disch := omega) only [go_sem, beq_self_eq_true, Nat.reduceBEq, ↓reduceIte, reduceCtorEq, Nat.reduceEqDiff, Nat.reduceAdd, Nat.reduceSub, Nat.reduceMul, Nat.reduceLT, Nat.reduceLeDiff, Int.reduceLT, Int.reduceLE, Int.reduceToNat, Int.reduceAdd, Int.reduceSub, Int.reduceMul, Int.reduceNeg, Int.reduceEq]
        intro b2
        refine CallG.pure (note_Right y) (W.go 200 ?_)
        cases hm : nright y with
        | false =>
          simp (config := { contextual := true, maxSteps := 4000000 }) (disch := omega) only [go_sem, beq_self_eq_true, Nat.reduceBEq, ↓reduceIte, reduceCtorEq, Nat.reduceEqDiff, Nat.reduceAdd, Nat.reduceSub, Nat.reduceMul, Nat.reduceLT, Nat.reduceLeDiff, Int.reduceLT, Int.reduceLE, Int.reduceToNat, Int.reduceAdd, Int.reduceSub, Int.reduceMul, Int.reduceNeg, Int.reduceEq, takeEnd]
        | true =>
          have hw : IntKind.u64.wrap ((i : Int) + 1) = ((i + 1 : Nat) : Int) := by rw [u64_in (by omega) (by omega)]; rfl
          simp (config := { contextual := true, maxSteps := 4000000 }) (disch := omega) only [go_sem, beq_self_eq_true, Nat.reduceBEq, ↓reduceIte, reduceCtorEq, Nat.reduceEqDiff, Nat.reduceAdd, Nat.reduceSub, Nat.reduceMul, Nat.reduceLT, Nat.reduceLeDiff, Int.reduceLT, Int.reduceLE, Int.reduceToNat, Int.reduceAdd, Int.reduceSub, Int.reduceMul, Int.reduceNeg, Int.reduceEq, hw]
          intro b3
          refine ⟨(i + 1, t', false, out ++ [y], b3), ⟨hi, by simp [h2], by simp only; omega, nofun, ?_⟩, by simp only; omega, .inl (by simp), 2, by simp⟩
          have hd' : N - (i + 1) = d := by omega
          simp only [takeEnd, hd']
          cases takeN gN nright d t' <;> simp
    · rw [show N - i = 0 by omega, takeN]
      have hm : ∀ hp m, (List.map Note.av out).mapM (fz hp m 4) = some (List.map Note.av out) := fun hp m => fz_map _ _ _ _ _ fun x => by simp only [fz, mapMc, mapMn, Option.map_some, Option.bind_some]
      cases bad with
      | true => simp (config := { contextual := true, maxSteps := 4000000 }) (disch := omega) only [go_sem, beq_self_eq_true, Nat.reduceBEq, ↓reduceIte, reduceCtorEq, Nat.reduceEqDiff, Nat.reduceAdd, Nat.reduceSub, Nat.reduceMul, Nat.reduceLT, Nat.reduceLeDiff, Int.reduceLT, Int.reduceLE, Int.reduceToNat, Int.reduceAdd, Int.reduceSub, Int.reduceMul, Int.reduceNeg, Int.reduceEq, hi, takeEnd]
      | false => simp (config := { contextual := true, maxSteps := 4000000 }) (disch := omega) only [go_sem, beq_self_eq_true, Nat.reduceBEq, ↓reduceIte, reduceCtorEq, Nat.reduceEqDiff, Nat.reduceAdd, Nat.reduceSub, Nat.reduceMul, Nat.reduceLT, Nat.reduceLeDiff, Int.reduceLT, Int.reduceLE, Int.reduceToNat, Int.reduceAdd, Int.reduceSub, Int.reduceMul, Int.reduceNeg, Int.reduceEq, hi, takeEnd, List.take_of_length_le (show (List.map Note.av out).length ≤ out.length by simp), hm]
theorem flat_TakeNote (s : List UInt8) (hs : s.length ≤ 2 ^ 40) : APure Try.prog 5 [sA s] (.tup [.sl 4 ((takeLP gN nright s).1.map Note.av), sA (takeLP gN nright s).2.1, iA (takeLP gN nright s).2.2]) := by
  refine i5 rfl (by simp) (W.go 60 ?_)
  simp (config := { contextual := true, maxSteps := 4000000 }) (disch := omega) only [go_sem, beq_self_eq_true, Nat.reduceBEq, ↓reduceIte, reduceCtorEq, Nat.reduceEqDiff, Nat.reduceAdd, Nat.reduceSub, Nat.reduceMul, Nat.reduceLT, Nat.reduceLeDiff, Int.reduceLT, Int.reduceLE, Int.reduceToNat, Int.reduceAdd, Int.reduceSub, Int.reduceMul, Int.reduceNeg, Int.reduceEq]
  refine CallG.pure (take_Note s hs) (W.go 200 ?_)
  simp (config := { contextual := true, maxSteps := 4000000 }) (disch := omega) only [go_sem, beq_self_eq_true, Nat.reduceBEq, ↓reduceIte, reduceCtorEq, Nat.reduceEqDiff, Nat.reduceAdd, Nat.reduceSub, Nat.reduceMul, Nat.reduceLT, Nat.reduceLeDiff, Int.reduceLT, Int.reduceLE, Int.reduceToNat, Int.reduceAdd, Int.reduceSub, Int.reduceMul, Int.reduceNeg, Int.reduceEq]
theorem take_Pair (s : List UInt8) (hs : s.length ≤ 2 ^ 40) : APure Try.prog 26 [sA s, .fn (.func 27) [] [], .fn (.func 28) [] []] (.tup [.sl 2 ((takeLP gP pright s).1.map Pair.av), sA (takeLP gP pright s).2.1, iA (takeLP gP pright s).2.2]) := by
  refine i26 rfl (by simp) (W.go 60 ?_)
  simp (config := { contextual := true, maxSteps := 4000000 }) (disch := omega) only [go_sem, beq_self_eq_true, Nat.reduceBEq, ↓reduceIte, reduceCtorEq, Nat.reduceEqDiff, Nat.reduceAdd, Nat.reduceSub, Nat.reduceMul, Nat.reduceLT, Nat.reduceLeDiff, Int.reduceLT, Int.reduceLE, Int.reduceToNat, Int.reduceAdd, Int.reduceSub, Int.reduceMul, Int.reduceNeg, Int.reduceEq]
  intro b
  refine CallG.mut (reader_num s false 2 (by omega)) rfl (W.go 200 ?_)
  generalize hr : rnum s 2 = q
  obtain ⟨N, r0, b0⟩ := q
  obtain ⟨q1, q2, q3, q4⟩ := takeLP_end gP pright s hr
  rw [q1]
  clear q1 hr
  have hr0 : r0.length ≤ 2 ^ 40 := by omega
  clear q2 hs
  simp (config := { contextual := true, maxSteps := 4000000 }) (disch := omega) only [go_sem, beq_self_eq_true, Nat.reduceBEq, ↓reduceIte, reduceCtorEq, Nat.reduceEqDiff, Nat.reduceAdd, Nat.reduceSub, Nat.reduceMul, Nat.reduceLT, Nat.reduceLeDiff, Int.reduceLT, Int.reduceLE, Int.reduceToNat, Int.reduceAdd, Int.reduceSub, Int.reduceMul, Int.reduceNeg, Int.reduceEq]
  refine W.virt 10 2 49 rfl ?_
  simp (config := { contextual := true, maxSteps := 4000000 }) (disch := omega) only [go_sem, beq_self_eq_true, Nat.reduceBEq, ↓reduceIte, reduceCtorEq, Nat.reduceEqDiff, Nat.reduceAdd, Nat.reduceSub, Nat.reduceMul, Nat.reduceLT, Nat.reduceLeDiff, Int.reduceLT, Int.reduceLE, Int.reduceToNat, Int.reduceAdd, Int.reduceSub, Int.reduceMul, Int.reduceNeg, Int.reduceEq]
  refine W.loopS (fun x : Nat × List UInt8 × Bool × List Pair × Option Nat => [(1, .fn (.func 27) [] []), (2, .fn (.func 28) [] []), (9, .ptr 0 2 (some b) 0 0), (10, .own 1 2 x.2.2.2.2 0 x.2.2.2.1.length), (16, uA N), (17, uA x.1)])
    (fun x => [⟨true, some b, 2, 79, [rdA x.2.1 x.2.2.1]⟩, ⟨true, x.2.2.2.2, 2, 49, x.2.2.2.1.map Pair.av⟩])
    (fun x => x.1 ≤ N ∧ x.2.2.2.1.length = x.1 ∧ x.2.1.length ≤ 2 ^ 40 ∧ (x.2.2.1 = true → x.1 = N) ∧ takeEnd b0 [] (takeN gP pright N r0) = takeEnd x.2.2.1 x.2.2.2.1 (takeN gP pright (N - x.1) x.2.1)) (fun x => N - x.1)
    (0, r0, b0, [], none) ?_ rfl rfl ?_
  · exact ⟨Nat.zero_le _, rfl, hr0, fun h => (q4 h).symm, rfl⟩
  · rintro ⟨i, t, bad, out, o⟩ ⟨h1, h2, h3, h4, h5⟩
    simp only at h1 h2 h3 h4 h5
    refine W.go 200 ?_
    rw [h5]
    clear h5
    by_cases hi : i < N
    · obtain rfl : bad = false := by cases bad with | false => rfl | true => have := h4 rfl; omega
      obtain ⟨d, hd⟩ : ∃ d, N - i = d + 1 := ⟨N - i - 1, by omega⟩
      have hle := gP_le t
      simp (config := { contextual := true, maxSteps := 4000000 }) (disch := omega) only [go_sem, beq_self_eq_true, Nat.reduceBEq, ↓reduceIte, reduceCtorEq, Nat.reduceEqDiff, Nat.reduceAdd, Nat.reduceSub, Nat.reduceMul, Nat.reduceLT, Nat.reduceLeDiff, Int.reduceLT, Int.reduceLE, Int.reduceToNat, Int.reduceAdd, Int.reduceSub, Int.reduceMul, Int.reduceNeg, Int.reduceEq, hi]
      refine CallG.mut (take_pair_get t h3) rfl (W.go 200 ?_)
      rw [hd, takeN]
      generalize hq : gP t = q at hle
      obtain ⟨y, t', bad'⟩ := q
      simp only at hle
      cases bad' with
      | true =>
        simp (config := { contextual := true, maxSteps := 4000000 }) (disch := omega) only [go_sem, beq_self_eq_true, Nat.reduceBEq, ↓reduceIte, reduceCtorEq, Nat.reduceEqDiff, Nat.reduceAdd, Nat.reduceSub, Nat.reduceMul, Nat.reduceLT, Nat.reduceLeDiff, Int.reduceLT, Int.reduceLE, Int.reduceToNat, Int.reduceAdd, Int.reduceSub, Int.reduceMul, Int.reduceNeg, Int.reduceEq, takeEnd]
      | false =>
        simp (config := { contextual := true, maxSteps := 4000000 }) (disch := omega) only [go_sem, beq_self_eq_true, Nat.reduceBEq, ↓reduceIte, reduceCtorEq, Nat.reduceEqDiff, Nat.reduceAdd, Nat.reduceSub, Nat.reduceMul, Nat.reduceLT, Nat.reduceLeDiff, Int.reduceLT, Int.reduceLE, Int.reduceToNat, Int.reduceAdd, Int.reduceSub, Int.reduceMul, Int.reduceNeg, Int.reduceEq]
        intro b2
        refine CallG.pure (flat_pair y) (W.go 200 ?_)
        cases hm : pright y with
        | false =>
          simp (config := { contextual := true, maxSteps := 4000000 }) (disch := omega) only [go_sem, beq_self_eq_true, Nat.reduceBEq, ↓reduceIte, reduceCtorEq, Nat.reduceEqDiff, Nat.reduceAdd, Nat.reduceSub, Nat.reduceMul, Nat.reduceLT, Nat.reduceLeDiff, Int.reduceLT, Int.reduceLE, Int.reduceToNat, Int.reduceAdd, Int.reduceSub, Int.reduceMul, Int.reduceNeg, Int.reduceEq, takeEnd]
        | true =>
          have hw : IntKind.u64.wrap ((i : Int) + 1) = ((i + 1 : Nat) : Int) := by rw [u64_in (by omega) (by omega)]; rfl
          simp (config := { contextual := true, maxSteps := 4000000 }) (disch := omega) only [go_sem, beq_self_eq_true, Nat.reduceBEq, ↓reduceIte, reduceCtorEq, Nat.reduceEqDiff, Nat.reduceAdd, Nat.reduceSub, Nat.reduceMul, Nat.reduceLT, Nat.reduceLeDiff, Int.reduceLT, Int.reduceLE, Int.reduceToNat, Int.reduceAdd, Int.reduceSub, Int.reduceMul, Int.reduceNeg, Int.reduceEq, hw]
          intro b3
          refine ⟨(i + 1, t', false, out ++ [y], b3), ⟨hi, by simp [h2], by simp only; omega, nofun, ?_⟩, by simp only; omega, .inl (by simp), 2, by simp⟩
          have hd' : N - (i + 1) = d := by omega
          simp only [takeEnd, hd']
          cases takeN gP pright d t' <;> simp
    · rw [show N - i = 0 by omega, takeN]
      have hm : ∀ hp m, (List.map Pair.av out).mapM (fz hp m 4) = some (List.map Pair.av out) := fun hp m => fz_map _ _ _ _ _ fun x => by simp only [fz, mapMc, mapMn, Option.map_some, Option.bind_some]
      cases bad with
      | true => simp (config := { contextual := true, maxSteps := 4000000 }) (disch := omega) only [go_sem, beq_self_eq_true, Nat.reduceBEq, ↓reduceIte, reduceCtorEq, Nat.reduceEqDiff, Nat.reduceAdd, Nat.reduceSub, Nat.reduceMul, Nat.reduceLT, Nat.reduceLeDiff, Int.reduceLT, Int.reduceLE, Int.reduceToNat, Int.reduceAdd, Int.reduceSub, Int.reduceMul, Int.reduceNeg, Int.reduceEq, hi, takeEnd]
      | false => simp (config := { contextual := true, maxSteps := 4000000 }) (disch := omega) only [go_sem, beq_self_eq_true, Nat.reduceBEq, ↓reduceIte, reduceCtorEq, Nat.reduceEqDiff, Nat.reduceAdd, Nat.reduceSub, Nat.reduceMul, Nat.reduceLT, Nat.reduceLeDiff, Int.reduceLT, Int.reduceLE, Int.reduceToNat, Int.reduceAdd, Int.reduceSub, Int.reduceMul, Int.reduceNeg, Int.reduceEq, hi, takeEnd, List.take_of_length_le (show (List.map Pair.av out).length ≤ out.length by simp), hm]
theorem flat_TakePair (s : List UInt8) (hs : s.length ≤ 2 ^ 40) : APure Try.prog 6 [sA s] (.tup [.sl 2 ((takeLP gP pright s).1.map Pair.av), sA (takeLP gP pright s).2.1, iA (takeLP gP pright s).2.2]) := by
  refine i6 rfl (by simp) (W.go 60 ?_)
  simp (config := { contextual := true, maxSteps := 4000000 }) (disch := omega) only [go_sem, beq_self_eq_true, Nat.reduceBEq, ↓reduceIte, reduceCtorEq, Nat.reduceEqDiff, Nat.reduceAdd, Nat.reduceSub, Nat.reduceMul, Nat.reduceLT, Nat.reduceLeDiff, Int.reduceLT, Int.reduceLE, Int.reduceToNat, Int.reduceAdd, Int.reduceSub, Int.reduceMul, Int.reduceNeg, Int.reduceEq]
  refine CallG.pure (take_Pair s hs) (W.go 200 ?_)
  simp (config := { contextual := true, maxSteps := 4000000 }) (disch := omega) only [go_sem, beq_self_eq_true, Nat.reduceBEq, ↓reduceIte, reduceCtorEq, Nat.reduceEqDiff, Nat.reduceAdd, Nat.reduceSub, Nat.reduceMul, Nat.reduceLT, Nat.reduceLeDiff, Int.reduceLT, Int.reduceLE, Int.reduceToNat, Int.reduceAdd, Int.reduceSub, Int.reduceMul, Int.reduceNeg, Int.reduceEq]
theorem take_Change (s : List UInt8) (hs : s.length ≤ 2 ^ 40) : APure Try.prog 29 [sA s, .fn (.func 30) [] [], .fn (.func 31) [] []] (.tup [.sl 6 ((takeLP gC cmay s).1.map Change.av), sA (takeLP gC cmay s).2.1, iA (takeLP gC cmay s).2.2]) := by
  refine i29 rfl (by simp) (W.go 60 ?_)
  simp (config := { contextual := true, maxSteps := 4000000 }) (disch := omega) only [go_sem, beq_self_eq_true, Nat.reduceBEq, ↓reduceIte, reduceCtorEq, Nat.reduceEqDiff, Nat.reduceAdd, Nat.reduceSub, Nat.reduceMul, Nat.reduceLT, Nat.reduceLeDiff, Int.reduceLT, Int.reduceLE, Int.reduceToNat, Int.reduceAdd, Int.reduceSub, Int.reduceMul, Int.reduceNeg, Int.reduceEq]
  intro b
  refine CallG.mut (reader_num s false 2 (by omega)) rfl (W.go 200 ?_)
  generalize hr : rnum s 2 = q
  obtain ⟨N, r0, b0⟩ := q
  obtain ⟨q1, q2, q3, q4⟩ := takeLP_end gC cmay s hr
  rw [q1]
  clear q1 hr
  have hr0 : r0.length ≤ 2 ^ 40 := by omega
  clear q2 hs
  simp (config := { contextual := true, maxSteps := 4000000 }) (disch := omega) only [go_sem, beq_self_eq_true, Nat.reduceBEq, ↓reduceIte, reduceCtorEq, Nat.reduceEqDiff, Nat.reduceAdd, Nat.reduceSub, Nat.reduceMul, Nat.reduceLT, Nat.reduceLeDiff, Int.reduceLT, Int.reduceLE, Int.reduceToNat, Int.reduceAdd, Int.reduceSub, Int.reduceMul, Int.reduceNeg, Int.reduceEq]
  refine W.virt 10 6 53 rfl ?_
  simp (config := { contextual := true, maxSteps := 4000000 }) (disch := omega) only [go_sem, beq_self_eq_true, Nat.reduceBEq, ↓reduceIte, reduceCtorEq, Nat.reduceEqDiff, Nat.reduceAdd, Nat.reduceSub, Nat.reduceMul, Nat.reduceLT, Nat.reduceLeDiff, Int.reduceLT, Int.reduceLE, Int.reduceToNat, Int.reduceAdd, Int.reduceSub, Int.reduceMul, Int.reduceNeg, Int.reduceEq]
  refine W.loopS (fun x : Nat × List UInt8 × Bool × List Change × Option Nat => [(1, .fn (.func 30) [] []), (2, .fn (.func 31) [] []), (9, .ptr 0 2 (some b) 0 0), (10, .own 1 6 x.2.2.2.2 0 x.2.2.2.1.length), (16, uA N), (17, uA x.1)])
    (fun x => [⟨true, some b, 2, 79, [rdA x.2.1 x.2.2.1]⟩, ⟨true, x.2.2.2.2, 6, 53, x.2.2.2.1.map Change.av⟩])
    (fun x => x.1 ≤ N ∧ x.2.2.2.1.length = x.1 ∧ x.2.1.length ≤ 2 ^ 40 ∧ (x.2.2.1 = true → x.1 = N) ∧ takeEnd b0 [] (takeN gC cmay N r0) = takeEnd x.2.2.1 x.2.2.2.1 (takeN gC cmay (N - x.1) x.2.1)) (fun x => N - x.1)
    (0, r0, b0, [], none) ?_ rfl rfl ?_
  · exact ⟨Nat.zero_le _, rfl, hr0, fun h => (q4 h).symm, rfl⟩
  · rintro ⟨i, t, bad, out, o⟩ ⟨h1, h2, h3, h4, h5⟩
    simp only at h1 h2 h3 h4 h5
    refine W.go 200 ?_
    rw [h5]
    clear h5
    by_cases hi : i < N
    · obtain rfl : bad = false := by cases bad with | false => rfl | true => have := h4 rfl; omega
      obtain ⟨d, hd⟩ : ∃ d, N - i = d + 1 := ⟨N - i - 1, by omega⟩
      have hle := gC_le t
      simp (config := { contextual := true, maxSteps := 4000000 }) (disch := omega) only [go_sem, beq_self_eq_true, Nat.reduceBEq, ↓reduceIte, reduceCtorEq, Nat.reduceEqDiff, Nat.reduceAdd, Nat.reduceSub, Nat.reduceMul, Nat.reduceLT, Nat.reduceLeDiff, Int.reduceLT, Int.reduceLE, Int.reduceToNat, Int.reduceAdd, Int.reduceSub, Int.reduceMul, Int.reduceNeg, Int.reduceEq, hi]
      refine CallG.mut (take_change_get t h3) rfl (W.go 200 ?_)
      rw [hd, takeN]
      generalize hq : gC t = q at hle
      obtain ⟨y, t', bad'⟩ := q
      simp only at hle
      cases bad' with
      | true =>
        simp (config := { contextual := true, maxSteps := 4000000 }) (disch := omega) only [go_sem, beq_self_eq_true, Nat.reduceBEq, ↓reduceIte, reduceCtorEq, Nat.reduceEqDiff, Nat.reduceAdd, Nat.reduceSub, Nat.reduceMul, Nat.reduceLT, Nat.reduceLeDiff, Int.reduceLT, Int.reduceLE, Int.reduceToNat, Int.reduceAdd, Int.reduceSub, Int.reduceMul, Int.reduceNeg, Int.reduceEq, takeEnd]
      | false =>
        simp (config := { contextual := true, maxSteps := 4000000 }) (disch := omega) only [go_sem, beq_self_eq_true, Nat.reduceBEq, ↓reduceIte, reduceCtorEq, Nat.reduceEqDiff, Nat.reduceAdd, Nat.reduceSub, Nat.reduceMul, Nat.reduceLT, Nat.reduceLeDiff, Int.reduceLT, Int.reduceLE, Int.reduceToNat, Int.reduceAdd, Int.reduceSub, Int.reduceMul, Int.reduceNeg, Int.reduceEq]
        intro b2
        refine CallG.pure (flat_May y) (W.go 200 ?_)
        cases hm : cmay y with
        | false =>
          simp (config := { contextual := true, maxSteps := 4000000 }) (disch := omega) only [go_sem, beq_self_eq_true, Nat.reduceBEq, ↓reduceIte, reduceCtorEq, Nat.reduceEqDiff, Nat.reduceAdd, Nat.reduceSub, Nat.reduceMul, Nat.reduceLT, Nat.reduceLeDiff, Int.reduceLT, Int.reduceLE, Int.reduceToNat, Int.reduceAdd, Int.reduceSub, Int.reduceMul, Int.reduceNeg, Int.reduceEq, takeEnd]
        | true =>
          have hw : IntKind.u64.wrap ((i : Int) + 1) = ((i + 1 : Nat) : Int) := by rw [u64_in (by omega) (by omega)]; rfl
          simp (config := { contextual := true, maxSteps := 4000000 }) (disch := omega) only [go_sem, beq_self_eq_true, Nat.reduceBEq, ↓reduceIte, reduceCtorEq, Nat.reduceEqDiff, Nat.reduceAdd, Nat.reduceSub, Nat.reduceMul, Nat.reduceLT, Nat.reduceLeDiff, Int.reduceLT, Int.reduceLE, Int.reduceToNat, Int.reduceAdd, Int.reduceSub, Int.reduceMul, Int.reduceNeg, Int.reduceEq, hw]
          intro b3
          refine ⟨(i + 1, t', false, out ++ [y], b3), ⟨hi, by simp [h2], by simp only; omega, nofun, ?_⟩, by simp only; omega, .inl (by simp), 2, by simp⟩
          have hd' : N - (i + 1) = d := by omega
          simp only [takeEnd, hd']
          cases takeN gC cmay d t' <;> simp
    · rw [show N - i = 0 by omega, takeN]
      have hm : ∀ hp m, (List.map Change.av out).mapM (fz hp m 4) = some (List.map Change.av out) := fun hp m => fz_map _ _ _ _ _ fun x => by simp only [fz, mapMc, mapMn, Option.map_some, Option.bind_some]
      cases bad with
      | true => simp (config := { contextual := true, maxSteps := 4000000 }) (disch := omega) only [go_sem, beq_self_eq_true, Nat.reduceBEq, ↓reduceIte, reduceCtorEq, Nat.reduceEqDiff, Nat.reduceAdd, Nat.reduceSub, Nat.reduceMul, Nat.reduceLT, Nat.reduceLeDiff, Int.reduceLT, Int.reduceLE, Int.reduceToNat, Int.reduceAdd, Int.reduceSub, Int.reduceMul, Int.reduceNeg, Int.reduceEq, hi, takeEnd]
      | false => simp (config := { contextual := true, maxSteps := 4000000 }) (disch := omega) only [go_sem, beq_self_eq_true, Nat.reduceBEq, ↓reduceIte, reduceCtorEq, Nat.reduceEqDiff, Nat.reduceAdd, Nat.reduceSub, Nat.reduceMul, Nat.reduceLT, Nat.reduceLeDiff, Int.reduceLT, Int.reduceLE, Int.reduceToNat, Int.reduceAdd, Int.reduceSub, Int.reduceMul, Int.reduceNeg, Int.reduceEq, hi, takeEnd, List.take_of_length_le (show (List.map Change.av out).length ≤ out.length by simp), hm]
theorem flat_TakeChange (s : List UInt8) (hs : s.length ≤ 2 ^ 40) : APure Try.prog 7 [sA s] (.tup [.sl 6 ((takeLP gC cmay s).1.map Change.av), sA (takeLP gC cmay s).2.1, iA (takeLP gC cmay s).2.2]) := by
  refine i7 rfl (by simp) (W.go 60 ?_)
  simp (config := { contextual := true, maxSteps := 4000000 }) (disch := omega) only [go_sem, beq_self_eq_true, Nat.reduceBEq, ↓reduceIte, reduceCtorEq, Nat.reduceEqDiff, Nat.reduceAdd, Nat.reduceSub, Nat.reduceMul, Nat.reduceLT, Nat.reduceLeDiff, Int.reduceLT, Int.reduceLE, Int.reduceToNat, Int.reduceAdd, Int.reduceSub, Int.reduceMul, Int.reduceNeg, Int.reduceEq]
  refine CallG.pure (take_Change s hs) (W.go 200 ?_)
  simp (config := { contextual := true, maxSteps := 4000000 }) (disch := omega) only [go_sem, beq_self_eq_true, Nat.reduceBEq, ↓reduceIte, reduceCtorEq, Nat.reduceEqDiff, Nat.reduceAdd, Nat.reduceSub, Nat.reduceMul, Nat.reduceLT, Nat.reduceLeDiff, Int.reduceLT, Int.reduceLE, Int.reduceToNat, Int.reduceAdd, Int.reduceSub, Int.reduceMul, Int.reduceNeg, Int.reduceEq]
end Go.Ab
