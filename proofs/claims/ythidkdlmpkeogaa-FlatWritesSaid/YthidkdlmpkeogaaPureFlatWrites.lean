/- The bytes of any notes, pairs, changes, and any range, are what the document says, or refused. -/
import Derived.Test.YthidkdlmpkeogaaFlaw13FlatWrites
import Derived.Test.YthidkdlmpkeogaaFlaw13told
import Derived.Test.YthidkdlmpkeogaaPlAwake13
import Derived.Test.YthidkdlmpkeogaaPlRef13
namespace Go.Proofs.Ythidkdlmpkeogaa.PlFlatWrites
open Go.RowKit Go.Proofs.Ythidkdlmpkeogaa.F Go.Proofs.YthidkdlmpkeogaaW.PrintWords Go.Proofs.YthidkdlmpkeogaaW.PrintLast Go.Proofs.YthidkdlmpkeogaaW.PrintMore Go.Proofs.Ythidkdlmpkeogaa.Pl
set_option linter.unusedVariables false
set_option linter.unusedSimpArgs false

theorem told (r : ByteArray × Int) (h : r.2 = 0 ∨ r = (B [], 1)) : weirkeeperlaw13_told.f r.1 r.2 (okR r).1 (okR r).2 = some true := by
  unfold weirkeeperlaw13_told.f okR
  rcases h with h | h
  · rw [h, if_pos (by simp), if_pos rfl]; rfl
  · rw [h, if_neg (by decide), if_pos (by rw [B_toList])]; rfl
theorem told_list {α : Type} (may : α → Bool) (enc : α → List UInt8) (l : List α) : (listR may enc l).2 = 0 ∨ listR may enc l = (B [], 1) := by
  unfold listR
  by_cases h : l.length ≤ 65535 ∧ ∀ x ∈ l, may x = true
  · rw [if_pos h]; exact Or.inl rfl
  · rw [if_neg h]; exact Or.inr rfl
theorem told_range (lo hi : ByteArray) (op : Bool) : (rangeR lo hi op).2 = 0 ∨ rangeR lo hi op = (B [], 1) := by
  unfold rangeR
  by_cases h : rright lo hi op = true
  · rw [if_pos h]; exact Or.inl rfl
  · rw [if_neg h]; exact Or.inr rfl

theorem loop (K : Nat) (hK : ∀ k, K ≤ k → weirkeeperlaw13_awake.f k = some true) (a b d s : ByteArray × Int) (ha : a.2 = 0 ∨ a = (B [], 1)) (hb : b.2 = 0 ∨ b = (B [], 1)) (hd : d.2 = 0 ∨ d = (B [], 1)) (hs : s.2 = 0 ∨ s = (B [], 1))
    (c : List Change) (hn : c.length ≤ 30) (e : Nat) : ∀ (k i : Nat), i + e = c.length → e + K + 20 ≤ k →
    weirkeeperlaw13_FlatWrites.l0 k a.1 a.2 b.1 b.2 d.1 d.2 s.1 s.2 (okR a).1 (okR a).2 (okR b).1 (okR b).2 (okR d).1 (okR d).2 (okR s).1 (okR s).2 c (c.length : Int) (i : Int) = some true := by
  induction e with
  | zero =>
    intro k i hi hk
    obtain ⟨k, rfl⟩ : ∃ m, k = m + 1 := ⟨k - 1, by omega⟩
    simp only [weirkeeperlaw13_FlatWrites.l0]
    rw [if_neg (by omega), told a ha, told b hb, told d hd, told s hs, hK k (by omega)]
    rfl
  | succ e ih =>
    intro k i hi hk
    obtain ⟨k, rfl⟩ : ∃ m, k = m + 1 := ⟨k - 1, by omega⟩
    have hlt : i < c.length := by omega
    have w4 : wrap64 ((i : Int) + 1) = ((i + 1 : Nat) : Int) := by rw [wrap64_in (by omega) (by omega)]; omega
    simp only [weirkeeperlaw13_FlatWrites.l0]
    rw [if_pos (by omega), if_pos (by omega), if_pos (by omega), rdC c i hlt, may_eq _ k (by omega), may13 _ k (by omega), Option.bind_some, Option.bind_some, if_neg (by simp), w4]
    exact ih k (i + 1) (by omega) (by omega)

theorem pure : ∀ (l0 : List F.S48) (l1 : List F.S50) (l2 : List F.S42) (a3_0 : ByteArray) (a3_1 : ByteArray) (a3_2 : Bool), ((∀ yy ∈ l0, ((Lit.int .i64 yy.f0).wf = true ∧ yy.f1.size ≤ maxLen ∧ yy.f2.size ≤ maxLen ∧ (Lit.int .u64 yy.f3).wf = true)) ∧ l0.length ≤ maxLen) → ((∀ yy ∈ l1, (yy.f0.size ≤ maxLen ∧ yy.f1.size ≤ maxLen)) ∧ l1.length ≤ maxLen) → ((∀ yy ∈ l2, ((Lit.int .i64 yy.f0).wf = true ∧ yy.f1.size ≤ maxLen ∧ True ∧ yy.f3.size ≤ maxLen ∧ True ∧ yy.f5.size ≤ maxLen)) ∧ l2.length ≤ maxLen) → a3_0.size ≤ maxLen → a3_1.size ≤ maxLen → ∃ k, F.weirkeeperlaw13_FlatWrites.f k l0 l1 l2 a3_0 a3_1 a3_2 = some true := by
  intro n p c lo hi op hn _ _ _ _
  obtain ⟨K, hK⟩ := awake13_holds
  have fn : ∀ x ∈ n, nfine x := fun x hx => wf_u64 (hn.1 x hx).2.2.2
  refine ⟨K + 1000, ?_⟩
  obtain ⟨b, hb, hb'⟩ := fit_some n p c (K + 1000) (by omega)
  have hA : ∀ x1 x2 x3 y1 y2 y3, weirkeeperlaw13_FlatWrites.j0 (K + 1000) x1 x2 x3 true y1 y2 y3 = some true := by
    intro x1 x2 x3 y1 y2 y3
    simp only [weirkeeperlaw13_FlatWrites.j0]
    rw [if_pos trivial, hK (K + 999) (by omega)]
    rfl
  unfold weirkeeperlaw13_FlatWrites.f
  rw [hb, Option.bind_some]
  cases b with
  | false => rw [if_neg (by decide), hA]
  | true =>
    obtain ⟨n30, p30, c30⟩ := hb' rfl
    rw [if_pos rfl, short13_eq _ (by simp) _ (by simp only [List.length_cons, List.length_nil]; omega), Option.bind_some]
    by_cases hs : ∀ s ∈ [lo, hi], s.size ≤ 300
    · rw [decide_eq_true hs]
      have m1 : lo.size ≤ 300 := hs lo (by simp)
      have m2 : hi.size ≤ 300 := hs hi (by simp)
      simp only [weirkeeperlaw13_FlatWrites.j0]
      rw [if_neg (by decide), notes_eq n fn _ (by omega), pairs_eq p _ (by omega), changes_eq c _ (by omega), range_eq lo hi op (by omega) (by omega) _ (by omega), notes13 n fn n30 _ (by omega), pairs13 p p30 _ (by omega), changes13 c c30 _ (by omega), range13 lo hi op _ (by omega)]
      simp only [Option.bind_some]
      have lo := loop K hK _ _ _ _ (told_list nright encN n) (told_list pright encP p) (told_list cmay encC c) (told_range lo hi op) c c30 c.length (K + 999) 0 (by omega) (by omega)
      rw [show ((0 : Nat) : Int) = 0 from rfl] at lo
      exact lo
    · rw [decide_eq_false hs]
      exact hA _ _ _ _ _ _
end Go.Proofs.Ythidkdlmpkeogaa.PlFlatWrites
