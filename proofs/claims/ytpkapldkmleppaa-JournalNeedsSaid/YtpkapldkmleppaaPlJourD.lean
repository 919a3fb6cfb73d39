/- More of what is written over: parts of writes, and crashes. -/
import Derived.Test.YtpkapldkmleppaaPlJourC
import Derived.Test.YtpkapldkmleppaaPlSame01
import Derived.Test.YtpkapldkmleppaaPlAwake08
import Derived.Test.YtpkapldkmleppaaJourSpec2
namespace Go.Proofs.Ytpkapldkmleppaa.Pl
open Go.RowKit Go.Proofs.Ytpkapldkmleppaa.F Go.Proofs.YtpkapldkmleppaaW.PrintWords Go.Proofs.YtpkapldkmleppaaW.PrintLast Go.Proofs.YtpkapldkmleppaaW.PrintMore
set_option linter.unusedVariables false
set_option linter.unusedSimpArgs false
theorem awakeAt (k : Nat) (hk : 3000 ≤ k) : weirkeeperlaw08_awake.f k = some true := at_rounds weirkeeperlaw08_awake.mono hk awake8
theorem ovr_ovr {α : Type} (a : Nat) (T U S : List α) (h : a + T.length + U.length ≤ S.length) : ovr (a + T.length) U (ovr a T S) = ovr a (T ++ U) S := by
  have hl : (S.take a ++ T).length = a + T.length := by rw [List.length_append, List.length_take]; omega
  unfold ovr
  rw [List.take_append_of_le_length (by omega), List.take_of_length_le (by omega), List.drop_append, List.drop_of_length_le (by omega), List.nil_append, List.drop_drop, hl, List.append_assoc, List.append_assoc, List.append_assoc, List.append_assoc, List.length_append]
  congr 4
  omega
theorem ovr_drop {α : Type} (a : Nat) (T S : List α) (h : a ≤ S.length) : (ovr a T S).drop a = T ++ S.drop (a + T.length) := by
  have hl : (S.take a).length = a := by rw [List.length_take]; omega
  unfold ovr
  rw [List.append_assoc, List.drop_append_of_le_length (by omega), List.drop_of_length_le (by omega), List.nil_append]
theorem ovr_nil {α : Type} (a : Nat) (S : List α) : ovr a [] S = S := by simp [ovr]
theorem putW_append : ∀ (T U : List ByteArray) (a : Int), putW a (T ++ U) = putW a T ++ putW (a + T.length) U
  | [], U, a => by simp [putW]
  | t :: T, U, a => by
    rw [List.cons_append, putW, putW_append T U, putW, List.cons_append, List.length_cons]
    congr 3
    omega
/-- what is put further on leaves the sectors ahead alone -/
theorem put_ahead (kept : Nat → Bool) : ∀ (T : List ByteArray) (a n b : Nat) (S : List ByteArray), b ≤ a → (applyW kept n (putW (a : Int) T) S).take b = S.take b
  | [], a, n, b, S, h => rfl
  | t :: T, a, n, b, S, h => by
    rw [putW, applyW, show ((a : Int) + 1) = ((a + 1 : Nat) : Int) by omega, put_ahead kept T (a + 1) (n + 1) b _ (by omega)]
    split
    · rw [Int.toNat_natCast, List.take_set_of_le (by omega)]
    · rfl
theorem crash_put (kept : Nat → Bool) : ∀ (T : List ByteArray) (a n : Nat) (S : List ByteArray), a + T.length ≤ S.length →
    ∃ j R, j ≤ T.length ∧ applyW kept n (putW (a : Int) T) S = S.take a ++ T.take j ++ R ∧ R.head? = (S.drop (a + j)).head?
  | [], a, n, S, h => ⟨0, S.drop a, Nat.le_refl _, by rw [putW, applyW, List.take_zero, List.append_nil, List.take_append_drop], rfl⟩
  | t :: T, a, n, S, h => by
    rw [List.length_cons] at h
    have ha : a < S.length := by omega
    by_cases c : kept n = true
    · obtain ⟨j, R, h1, h2, h3⟩ := crash_put kept T (a + 1) (n + 1) (S.set a t) (by rw [List.length_set]; omega)
      refine ⟨j + 1, R, by rw [List.length_cons]; omega, ?_, ?_⟩
      · rw [putW, applyW, if_pos c, show ((a : Int) + 1) = ((a + 1 : Nat) : Int) by omega, Int.toNat_natCast, h2, List.take_succ_cons, List.take_succ_eq_append_getElem (by rw [List.length_set]; omega), List.getElem_set_self, List.take_set_of_le (Nat.le_refl _)]
        simp
      · rw [h3, List.drop_set_of_lt (by omega)]
        congr 2
        omega
    · have hp := put_ahead kept T (a + 1) (n + 1) (a + 1) S (Nat.le_refl _)
      have hx : applyW kept n (putW (a : Int) (t :: T)) S = applyW kept (n + 1) (putW ((a + 1 : Nat) : Int) T) S := by
        rw [putW, applyW, if_neg c, show ((a : Int) + 1) = ((a + 1 : Nat) : Int) by omega]
      have hlen : (applyW kept (n + 1) (putW ((a + 1 : Nat) : Int) T) S).length = S.length := applyW_length _ _ _ _
      refine ⟨0, (applyW kept (n + 1) (putW ((a + 1 : Nat) : Int) T) S).drop a, Nat.zero_le _, ?_, ?_⟩
      · have hp2 := put_ahead kept T (a + 1) (n + 1) a S (by omega)
        rw [hx, List.take_zero, List.append_nil, ← hp2, List.take_append_drop]
      · rw [List.head?_drop, List.head?_drop]
        show _ = S[a]?
        rw [List.getElem?_eq_getElem (by omega), List.getElem?_eq_getElem ha]
        have e : ∀ (L M : List ByteArray) (hL : a < L.length) (hM : a < M.length), L.take (a + 1) = M.take (a + 1) → L[a] = M[a] := fun L M hL hM e => by
          have := congrArg (fun l => l[a]?) e
          simp only [List.getElem?_take, Nat.lt_succ_self, if_true] at this
          rw [List.getElem?_eq_getElem hL, List.getElem?_eq_getElem hM] at this
          exact Option.some.inj this
        rw [e _ _ (by omega) ha hp]
end Go.Proofs.Ytpkapldkmleppaa.Pl
