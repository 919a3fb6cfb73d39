/- Of what is written no beginning, but the whole, is taken. -/
import Derived.Test.YthidkdlmpkeogaaFlaw13FlatCuts
import Derived.Test.YthidkdlmpkeogaaPlAwake13
namespace Go.Proofs.Ythidkdlmpkeogaa.PlFlatCuts
open Go.RowKit Go.Proofs.Ythidkdlmpkeogaa.F Go.Proofs.YthidkdlmpkeogaaW.PrintWords Go.Proofs.YthidkdlmpkeogaaW.PrintLast Go.Proofs.YthidkdlmpkeogaaW.PrintMore Go.Proofs.Ythidkdlmpkeogaa.Pl
set_option linter.unusedVariables false
set_option linter.unusedSimpArgs false

theorem flat_le {α : Type} (may : α → Bool) (enc : α → List UInt8) (henc : ∀ x, may x = true → (enc x).length ≤ 200) (l : List α) (h : ∀ x ∈ l, may x = true) : (l.flatMap enc).length ≤ 200 * l.length := by
  induction l with
  | nil => simp
  | cons x l ih =>
    rw [List.flatMap_cons, List.length_append, List.length_cons]
    have h1 := ih fun y hy => h y (List.mem_cons_of_mem _ hy)
    have h2 := henc x (h x (List.mem_cons_self ..))
    omega

/-- one list: no beginning of what was written is taken, or it was refused -/
theorem one {α : Type} {may : α → Bool} {enc : α → List UInt8} {g : List UInt8 → α × List UInt8 × Bool} {Pr : α → Prop} (henc : ∀ x, may x = true → (enc x).length ≤ 200)
    (hof : ∀ x q, Pr x → may x = true → g (enc x ++ q) = (x, q, false)) (hmore : ∀ s q, (g s).2.2 = false → g (s ++ q) = ((g s).1, (g s).2.1 ++ q, false)) (l : List α) (hp : ∀ x ∈ l, Pr x) (hn : l.length ≤ 30) :
    (∃ s : List UInt8, listR may enc l = (B s, 0) ∧ 0 < s.length ∧ s.length ≤ 6002 ∧ ∀ i, i < s.length → takeLR g may (s.take i) = ([], B [], 2)) ∨ listR may enc l = (B [], 1) := by
  unfold listR
  by_cases h : ∀ x ∈ l, may x = true
  · rw [if_pos ⟨by omega, h⟩]
    have := flat_le may enc henc l h
    refine Or.inl ⟨_, rfl, ?_, ?_, fun i hi => ?_⟩
    · rw [List.length_append, be_length]; omega
    · rw [List.length_append, be_length]
      omega
    · unfold takeLR
      rw [takeL_cut hof hmore l hp h (by omega) i hi]
  · rw [if_neg fun hh => h hh.2]
    exact Or.inr rfl

/-- where the cut is -/
theorem cut (a n : Nat) (ha : a < 65536) (hn : 0 < n) (hn' : n ≤ 100000) : Int.tmod (wrap64 (a : Int)) (n : Int) = ((a % n : Nat) : Int) := by
  rw [wrap64_in (by omega) (by omega), Int.tmod_eq_emod_of_nonneg (by omega)]
  exact (Int.natCast_emod a n).symm

theorem pure : ∀ (l0 : List F.S48) (l1 : List F.S50) (l2 : List F.S42) (a3_0 : ByteArray) (a3_1 : ByteArray) (a3_2 : Bool) (a4 : Int), ((∀ yy ∈ l0, ((Lit.int .i64 yy.f0).wf = true ∧ yy.f1.size ≤ maxLen ∧ yy.f2.size ≤ maxLen ∧ (Lit.int .u64 yy.f3).wf = true)) ∧ l0.length ≤ maxLen) → ((∀ yy ∈ l1, (yy.f0.size ≤ maxLen ∧ yy.f1.size ≤ maxLen)) ∧ l1.length ≤ maxLen) → ((∀ yy ∈ l2, ((Lit.int .i64 yy.f0).wf = true ∧ yy.f1.size ≤ maxLen ∧ True ∧ yy.f3.size ≤ maxLen ∧ True ∧ yy.f5.size ≤ maxLen)) ∧ l2.length ≤ maxLen) → a3_0.size ≤ maxLen → a3_1.size ≤ maxLen → (Lit.int .u16 a4).wf = true → ∃ k, F.weirkeeperlaw13_FlatCuts.f k l0 l1 l2 a3_0 a3_1 a3_2 a4 = some true := by
  intro n p c lo hi op at_ hn _ _ _ _ hat
  obtain ⟨K, hK⟩ := awake13_holds
  have fn : ∀ x ∈ n, nfine x := fun x hx => wf_u64 (hn.1 x hx).2.2.2
  obtain ⟨a0, a1⟩ := wf_u16 hat
  obtain ⟨a, rfl⟩ := Int.eq_ofNat_of_zero_le a0
  have ha : a < 65536 := by omega
  refine ⟨K + 80000, ?_⟩
  obtain ⟨b, hb, hb'⟩ := fit_some n p c (K + 80000) (by omega)
  have hA : ∀ x1 x2 x3 x4 y1 y2 y3, weirkeeperlaw13_FlatCuts.j0 (K + 80000) x1 x2 x3 x4 true y1 y2 y3 = some true := by
    intro x1 x2 x3 x4 y1 y2 y3
    simp only [weirkeeperlaw13_FlatCuts.j0]
    rw [if_pos trivial, hK (K + 79999) (by omega)]
    rfl
  unfold weirkeeperlaw13_FlatCuts.f
  rw [hb, Option.bind_some]
  cases b with
  | false => rw [if_neg (by decide), hA]
  | true =>
    obtain ⟨n30, p30, c30⟩ := hb' rfl
    rw [if_pos rfl, short13_eq _ (by simp) _ (by simp only [List.length_cons, List.length_nil]; omega), Option.bind_some]
    by_cases hs : ∀ s ∈ [lo, hi], s.size ≤ 300
    · rw [decide_eq_true hs]
      have m1 : lo.size ≤ 300 := hs lo (by simp)
      have m2 : hi.size ≤ 300 := hs hi (by simp)
      clear hs hb hb' hA
      have r6 : weirkeeperlaw13_FlatCuts.j6 (K + 79994) (a : Int) (rangeR lo hi op).1 (rangeR lo hi op).2 = some true := by
        unfold rangeR
        by_cases h : rright lo hi op = true
        · have e1 : 0 < (encR lo hi op).length ∧ (encR lo hi op).length ≤ 700 := by simp only [encR, List.length_append, tx_length, bl_length, fl_length]; omega
          have e2 : ∀ i, i < (encR lo hi op).length → takeRangeR ((encR lo hi op).take i) = (B [], B [], false, B [], 2) := by
            intro i hi'
            unfold takeRangeR
            rw [takeRange_cut lo hi op h i hi']
          rw [if_pos h]
          generalize encR lo hi op = s at *
          have hc := cut a s.length ha (by omega) (by omega)
          have hm : a % s.length < s.length := Nat.mod_lt _ (by omega)
          simp only [weirkeeperlaw13_FlatCuts.j6, weirkeeperlaw13_FlatCuts.j7, hK (K + 79992) (by omega)]
          rw [if_pos trivial, B_size, if_pos (decide_eq_true (by omega)), if_neg (by omega), hc, if_pos (by omega), if_pos (by omega), Int.toNat_natCast, B_extract, List.drop_zero, takeRange_eq _ (by rw [List.length_take]; omega) _ (by omega), Option.bind_some, e2 _ hm]
          simp only [B_toList]
          rfl
        · rw [if_neg h]
          simp only [weirkeeperlaw13_FlatCuts.j6, weirkeeperlaw13_FlatCuts.j7, hK (K + 79992) (by omega)]
          rw [if_neg (by decide), if_neg (by decide)]
          rfl
      have r4 : weirkeeperlaw13_FlatCuts.j4 (K + 79996) (a : Int) (listR cmay encC c).1 (listR cmay encC c).2 (rangeR lo hi op).1 (rangeR lo hi op).2 = some true := by
        rcases one (Pr := fun _ => True) encC_le (fun x q _ h => gC_of x q h) gC_more c (fun _ _ => trivial) c30 with ⟨s, h1, h0, h2, h3⟩ | h
        · have hc := cut a s.length ha (by omega) (by omega)
          have hm : a % s.length < s.length := Nat.mod_lt _ (by omega)
          rw [h1]
          simp only [weirkeeperlaw13_FlatCuts.j4, weirkeeperlaw13_FlatCuts.j5, r6]
          rw [if_pos trivial, B_size, if_pos (decide_eq_true (by omega)), if_neg (by omega), hc, if_pos (by omega), if_pos (by omega), Int.toNat_natCast, B_extract, List.drop_zero, takeChanges_eq _ (by rw [List.length_take]; omega) _ (by omega), Option.bind_some, h3 _ hm]
          simp only [B_toList]
          rfl
        · rw [h]
          simp only [weirkeeperlaw13_FlatCuts.j4, weirkeeperlaw13_FlatCuts.j5, r6]
          rw [if_neg (by decide), if_neg (by decide)]
      have r2 : weirkeeperlaw13_FlatCuts.j2 (K + 79998) (a : Int) (listR pright encP p).1 (listR pright encP p).2 (listR cmay encC c).1 (listR cmay encC c).2 (rangeR lo hi op).1 (rangeR lo hi op).2 = some true := by
        rcases one (Pr := fun _ => True) encP_le (fun x q _ h => gP_of x q h) gP_more p (fun _ _ => trivial) p30 with ⟨s, h1, h0, h2, h3⟩ | h
        · have hc := cut a s.length ha (by omega) (by omega)
          have hm : a % s.length < s.length := Nat.mod_lt _ (by omega)
          rw [h1]
          simp only [weirkeeperlaw13_FlatCuts.j2, weirkeeperlaw13_FlatCuts.j3, r4]
          rw [if_pos trivial, B_size, if_pos (decide_eq_true (by omega)), if_neg (by omega), hc, if_pos (by omega), if_pos (by omega), Int.toNat_natCast, B_extract, List.drop_zero, takePairs_eq _ (by rw [List.length_take]; omega) _ (by omega), Option.bind_some, h3 _ hm]
          simp only [B_toList]
          rfl
        · rw [h]
          simp only [weirkeeperlaw13_FlatCuts.j2, weirkeeperlaw13_FlatCuts.j3, r4]
          rw [if_neg (by decide), if_neg (by decide)]
      simp only [weirkeeperlaw13_FlatCuts.j0]
      rw [if_neg (by decide), notes_eq n fn _ (by omega), pairs_eq p _ (by omega), changes_eq c _ (by omega), range_eq lo hi op (by omega) (by omega) _ (by omega), Option.bind_some, Option.bind_some, Option.bind_some, Option.bind_some]
      rcases one (Pr := nfine) encN_le (fun x q hp h => gN_of x q hp h) gN_more n fn n30 with ⟨s, h1, h0, h2, h3⟩ | h
      · have hc := cut a s.length ha (by omega) (by omega)
        have hm : a % s.length < s.length := Nat.mod_lt _ (by omega)
        rw [h1]
        simp only [weirkeeperlaw13_FlatCuts.j1, r2]
        rw [if_pos trivial, B_size, if_pos (decide_eq_true (by omega)), if_neg (by omega), hc, if_pos (by omega), if_pos (by omega), Int.toNat_natCast, B_extract, List.drop_zero, takeNotes_eq _ (by rw [List.length_take]; omega) _ (by omega), Option.bind_some, h3 _ hm]
        simp only [B_toList]
        rfl
      · rw [h]
        simp only [weirkeeperlaw13_FlatCuts.j1, r2]
        rw [if_neg (by decide), if_neg (by decide)]
    · rw [decide_eq_false hs]
      exact hA _ _ _ _ _ _ _
end Go.Proofs.Ythidkdlmpkeogaa.PlFlatCuts
