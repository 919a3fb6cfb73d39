/- Two texts that lie apart are both read, whichever was written first. -/
import Derived.Test.YtpkapldkmleppaaFlaw06BlockApart
import Derived.Test.YtpkapldkmleppaaPlBlock
import Derived.Test.YtpkapldkmleppaaPlAwake06
namespace Go.Proofs.Ytpkapldkmleppaa.PlBlockApart
open Go.RowKit Go.Proofs.Ytpkapldkmleppaa.F Go.Proofs.YtpkapldkmleppaaW.PrintWords Go.Proofs.YtpkapldkmleppaaW.PrintLast Go.Proofs.YtpkapldkmleppaaW.PrintMore Go.Proofs.Ytpkapldkmleppaa.Pl
set_option linter.unusedVariables false
set_option linter.unusedSimpArgs false
theorem two (n : Nat) (hn : n ≤ 1000) (I : List (List UInt8)) (S : List ByteArray) (W : List Wr) (h60 : S.length = 60) (x y : List UInt8) (hx : x.length ≤ 500) (hy : y.length ≤ 500) (p q : Nat) (hp : p + needB x.length ≤ 60) (hq : q + needB y.length ≤ 60)
    (hd : p + needB x.length ≤ q ∨ q + needB y.length ≤ p) (hI : Img n S W I) (k : Nat) (hk : 20 ≤ k) :
    ∃ W1 W2, block_Write.f k S W (p : Int) (B x) = some (S, W1, 0) ∧ block_Write.f k S W1 (q : Int) (B y) = some (S, W2, 0) ∧ block_Read.f k S W2 (p : Int) ((needB x.length : Nat) : Int) = some (B x, 0) ∧ block_Read.f k S W2 (q : Int) ((needB y.length : Nat) : Int) = some (B y, 0) := by
  have b1 : needB x.length ≤ 17 := by unfold needB; omega
  have b2 : needB y.length ≤ 17 := by unfold needB; omega
  obtain ⟨w1, i1⟩ := hI.write (by omega) p x (by omega) (by omega) k (by omega)
  obtain ⟨w2, i2⟩ := i1.write (by omega) q y (by omega) (by omega) k (by omega)
  have hl := hI.len
  have hl1 := i1.len
  refine ⟨_, _, w1, w2, ?_, ?_⟩
  · rw [i2.bread (by omega) p (needB x.length) (by omega) k (by omega), ovr_far q (secB y) _ (by rw [secB_length]; omega) p (needB x.length) (by omega) (by rw [secB_length]; omega)]
    have := ovr_mid p (secB x) I (by rw [secB_length]; omega)
    rw [secB_length] at this
    rw [this, readR_back x (by omega)]
  · rw [i2.bread (by omega) q (needB y.length) (by omega) k (by omega)]
    have := ovr_mid q (secB y) (ovr p (secB x) I) (by rw [secB_length]; omega)
    rw [secB_length] at this
    rw [this, readR_back y (by omega)]
theorem pure : ∀ (a0 : ByteArray) (a1 : ByteArray) (a2 : Bool), a0.size ≤ 140737488351232 → a1.size ≤ 140737488351232 → ∃ k, F.weirkeeperlaw06_BlockApart.f k a0 a1 a2 = some true := by
  intro a0 a1 a2 h0 h1
  refine ⟨200, ?_⟩
  have hj : ∀ (a0 a1 : ByteArray), weirkeeperlaw06_BlockApart.j0 200 a0 a1 a2 true = some true := fun a0 a1 => by
    rw [weirkeeperlaw06_BlockApart.j0, if_pos rfl, awake6At _ (by omega)]
    rfl
  unfold weirkeeperlaw06_BlockApart.f
  by_cases c1 : (a0.size : Int) > 500
  · rw [if_pos c1, hj]
  · rw [if_neg c1]
    by_cases c2 : (a1.size : Int) > 500
    · rw [decide_eq_true c2, hj]
    · rw [decide_eq_false c2]
      rw [B_of a0] at c1 ⊢
      rw [B_of a1] at c2 ⊢
      generalize a0.data.toList = x at c1 ⊢
      generalize a1.data.toList = y at c2 ⊢
      rw [B_size] at c1 c2
      have b1 : needB x.length ≤ 17 := by unfold needB; omega
      have b2 : needB y.length ≤ 17 := by unfold needB; omega
      have hI := Img.newN 60 (by omega) (by omega)
      have e1 : wrap64 (2 + ((needB x.length : Nat) : Int)) = ((2 + needB x.length : Nat) : Int) := by rw [wrap64_in (by omega) (by omega)]; omega
      rw [weirkeeperlaw06_BlockApart.j0, if_neg (by decide), New_ok (by omega) (by omega), Option.bind_some, B_size, bneed_eq _ (by omega), Option.bind_some, B_size, bneed_eq _ (by omega), Option.bind_some, e1]
      clear e1
      cases a2 with
      | true =>
        obtain ⟨W1, W2, w1, w2, r1, r2⟩ := two 0 (by omega) _ _ _ (by simp) x y (by omega) (by omega) 2 (2 + needB x.length) (by omega) (by omega) (by omega) hI 199 (by omega)
        rw [if_pos rfl, show (2 : Int) = ((2 : Nat) : Int) from rfl]
        simp only [show ((60 : Int)).toNat = 60 from rfl]
        rw [w1, Option.bind_some]
        simp only
        rw [w2, Option.bind_some]
        simp only
        rw [r1, Option.bind_some, r2, Option.bind_some]
        simp only [if_true, B_toList]
        rw [awake6At _ (by omega)]
        rfl
      | false =>
        obtain ⟨W1, W2, w1, w2, r1, r2⟩ := two 0 (by omega) _ _ _ (by simp) y x (by omega) (by omega) (2 + needB x.length) 2 (by omega) (by omega) (by omega) hI 199 (by omega)
        rw [if_neg (by decide), show (2 : Int) = ((2 : Nat) : Int) from rfl]
        simp only [show ((60 : Int)).toNat = 60 from rfl]
        rw [w1, Option.bind_some]
        simp only
        rw [w2, Option.bind_some]
        simp only
        rw [r2, Option.bind_some, r1, Option.bind_some]
        simp only [if_true, B_toList]
        rw [awake6At _ (by omega)]
        rfl
end Go.Proofs.Ytpkapldkmleppaa.PlBlockApart
