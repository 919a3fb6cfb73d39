/- What is written is taken, whatever stands behind. -/
import Derived.Test.YthidkdlmpkeogaaFlaw13FlatBack
import Derived.Test.YthidkdlmpkeogaaPlAwake13
namespace Go.Proofs.Ythidkdlmpkeogaa.PlFlatBack
open Go.RowKit Go.Proofs.Ythidkdlmpkeogaa.F Go.Proofs.YthidkdlmpkeogaaW.PrintWords Go.Proofs.YthidkdlmpkeogaaW.PrintLast Go.Proofs.YthidkdlmpkeogaaW.PrintMore Go.Proofs.Ythidkdlmpkeogaa.Pl
set_option linter.unusedVariables false
set_option linter.unusedSimpArgs false

theorem same_refl {α : Type} {l0 : Nat → List α → List α → Int → Option Bool} {D : α → α → Bool} {rd : List α → Int → α}
    (step : ∀ k a b i, l0 (k + 1) a b i = if i < (a.length : Int) then (if 0 ≤ i then (if i < (b.length : Int) then (if D (rd a i) (rd b i) = true then some false else l0 k a b (wrap64 (i + 1))) else none) else none) else some true)
    (hD : ∀ x, D x x = false) (l : List α) (hn : l.length ≤ 9223372036854775806) (d : Nat) : ∀ (k i : Nat), i + d = l.length → d < k → l0 k l l (i : Int) = some true := by
  induction d with
  | zero =>
    intro k i hi hk
    obtain ⟨k, rfl⟩ : ∃ m, k = m + 1 := ⟨k - 1, by omega⟩
    rw [step, if_neg (by omega)]
  | succ d ih =>
    intro k i hi hk
    obtain ⟨k, rfl⟩ : ∃ m, k = m + 1 := ⟨k - 1, by omega⟩
    have w4 : wrap64 ((i : Int) + 1) = ((i + 1 : Nat) : Int) := by rw [wrap64_in (by omega) (by omega)]; omega
    rw [step, if_pos (by omega), if_pos (by omega), if_pos (by omega), hD, if_neg (by decide), w4]
    exact ih k (i + 1) (by omega) (by omega)

theorem same09 (l : List Note) (hn : l.length ≤ 9223372036854775806) (k : Nat) (hk : l.length + 1 ≤ k) : weirkeeperref09_Same.f k l l = some true := by
  unfold weirkeeperref09_Same.f
  rw [if_pos rfl]
  exact same_refl (l0 := weirkeeperref09_Same.l0) (D := fun x y => !(x.f0 == y.f0) || (!(x.f1.toList == y.f1.toList) || (!(x.f2.toList == y.f2.toList) || !(x.f3 == y.f3)))) (rd := rd_T48) (fun _ _ _ _ => rfl) (fun x => by simp) l hn l.length k 0 (by omega) (by omega)
theorem same03 (l : List Pair) (hn : l.length ≤ 9223372036854775806) (k : Nat) (hk : l.length + 1 ≤ k) : weirkeeperref03_Same.f k l l = some true := by
  unfold weirkeeperref03_Same.f
  rw [if_pos rfl]
  exact same_refl (l0 := weirkeeperref03_Same.l0) (D := fun x y => !(x.f0.toList == y.f0.toList) || !(x.f1.toList == y.f1.toList)) (rd := rd_T50) (fun _ _ _ _ => rfl) (fun x => by simp) l hn l.length k 0 (by omega) (by omega)
theorem same13 (l : List Change) (hn : l.length ≤ 9223372036854775806) (k : Nat) (hk : l.length + 1 ≤ k) : weirkeeperref13_Same.f k l l = some true := by
  unfold weirkeeperref13_Same.f
  rw [if_pos rfl]
  exact same_refl (l0 := weirkeeperref13_Same.l0) (D := fun x y => !(x.f0 == y.f0) || (!(x.f1.toList == y.f1.toList) || (!(x.f2 == y.f2) || (!(x.f3.toList == y.f3.toList) || (!(x.f4 == y.f4) || !(x.f5.toList == y.f5.toList)))))) (rd := rd_T42) (fun _ _ _ _ => rfl) (fun x => by simp) l hn l.length k 0 (by omega) (by omega)

theorem flat_le {α : Type} (may : α → Bool) (enc : α → List UInt8) (henc : ∀ x, may x = true → (enc x).length ≤ 200) (l : List α) (h : ∀ x ∈ l, may x = true) : (l.flatMap enc).length ≤ 200 * l.length := by
  induction l with
  | nil => simp
  | cons x l ih =>
    rw [List.flatMap_cons, List.length_append, List.length_cons]
    have h1 := ih fun y hy => h y (List.mem_cons_of_mem _ hy)
    have h2 := henc x (h x (List.mem_cons_self ..))
    omega

/-- one list: it is taken as it was written, or it was refused -/
theorem one {α : Type} {may : α → Bool} {enc : α → List UInt8} {g : List UInt8 → α × List UInt8 × Bool} {Pr : α → Prop} (henc : ∀ x, may x = true → (enc x).length ≤ 200)
    (hof : ∀ x q, Pr x → may x = true → g (enc x ++ q) = (x, q, false)) (l : List α) (hp : ∀ x ∈ l, Pr x) (hn : l.length ≤ 30) :
    (∃ s : List UInt8, listR may enc l = (B s, 0) ∧ s.length ≤ 6002 ∧ ∀ q, takeLR g may (s ++ q) = (l, B q, 0)) ∨ (listR may enc l).2 = 1 := by
  unfold listR
  by_cases h : ∀ x ∈ l, may x = true
  · rw [if_pos ⟨by omega, h⟩]
    refine Or.inl ⟨_, rfl, ?_, fun q => ?_⟩
    · have := flat_le may enc henc l h
      rw [List.length_append, be_length]
      omega
    · unfold takeLR
      rw [takeL_of hof l q hp h (by omega)]
  · rw [if_neg fun hh => h hh.2]
    exact Or.inr rfl

theorem pure : ∀ (l0 : List F.S48) (l1 : List F.S50) (l2 : List F.S42) (a3_0 : ByteArray) (a3_1 : ByteArray) (a3_2 : Bool) (a4 : ByteArray), ((∀ yy ∈ l0, ((Lit.int .i64 yy.f0).wf = true ∧ yy.f1.size ≤ maxLen ∧ yy.f2.size ≤ maxLen ∧ (Lit.int .u64 yy.f3).wf = true)) ∧ l0.length ≤ maxLen) → ((∀ yy ∈ l1, (yy.f0.size ≤ maxLen ∧ yy.f1.size ≤ maxLen)) ∧ l1.length ≤ maxLen) → ((∀ yy ∈ l2, ((Lit.int .i64 yy.f0).wf = true ∧ yy.f1.size ≤ maxLen ∧ True ∧ yy.f3.size ≤ maxLen ∧ True ∧ yy.f5.size ≤ maxLen)) ∧ l2.length ≤ maxLen) → a3_0.size ≤ maxLen → a3_1.size ≤ maxLen → a4.size ≤ 140737488351232 → ∃ k, F.weirkeeperlaw13_FlatBack.f k l0 l1 l2 a3_0 a3_1 a3_2 a4 = some true := by
  intro n p c lo hi op more hn _ _ _ _ _
  obtain ⟨K, hK⟩ := awake13_holds
  have fn : ∀ x ∈ n, nfine x := fun x hx => wf_u64 (hn.1 x hx).2.2.2
  refine ⟨K + 80000, ?_⟩
  obtain ⟨b, hb, hb'⟩ := fit_some n p c (K + 80000) (by omega)
  have hA : ∀ x1 x2 x3 x4 y1 y2 y3, weirkeeperlaw13_FlatBack.j0 (K + 80000) x1 x2 x3 x4 true y1 y2 y3 = some true := by
    intro x1 x2 x3 x4 y1 y2 y3
    simp only [weirkeeperlaw13_FlatBack.j0]
    rw [if_pos trivial, hK (K + 79999) (by omega)]
    rfl
  unfold weirkeeperlaw13_FlatBack.f
  rw [hb, Option.bind_some]
  cases b with
  | false => rw [if_neg (by decide), hA]
  | true =>
    obtain ⟨n30, p30, c30⟩ := hb' rfl
    rw [if_pos rfl, short13_eq _ (by simp) _ (by simp only [List.length_cons, List.length_nil]; omega), Option.bind_some]
    by_cases hs : ∀ s ∈ [lo, hi, more], s.size ≤ 300
    · rw [decide_eq_true hs]
      have m1 : lo.size ≤ 300 := hs lo (by simp)
      have m2 : hi.size ≤ 300 := hs hi (by simp)
      have m3 : more.size ≤ 300 := hs more (by simp)
      have ml : (bl more).length ≤ 300 := by rw [bl_length]; exact m3
      obtain ⟨bm, rfl⟩ : ∃ q, more = B q := ⟨bl more, (bl_B more).symm⟩
      rw [bl_of] at ml
      clear hs m3 hb hb' hA
      -- the range
      have r3 : weirkeeperlaw13_FlatBack.j3 (K + 79997) (B bm) lo hi op = some true := by
        simp only [weirkeeperlaw13_FlatBack.j3, hK (K + 79996) (by omega)]
        rw [range_eq lo hi op (by omega) (by omega) _ (by omega), Option.bind_some, rangeR]
        by_cases h : rright lo hi op = true
        · rw [if_pos h]
          simp only
          have e1 : (encR lo hi op).length ≤ 700 := by simp only [encR, List.length_append, tx_length, bl_length, fl_length]; omega
          have e2 : takeRangeR (encR lo hi op ++ bm) = (lo, hi, op, B bm, 0) := by unfold takeRangeR; rw [takeRange_of lo hi op bm h]
          rw [if_pos trivial, if_pos (by rw [B_size, B_size]; omega), B_append, takeRange_eq _ (by rw [List.length_append]; omega) _ (by omega), Option.bind_some, e2]
          simp
        · rw [if_neg h]
          simp only
          rw [if_neg (by decide)]
          rfl
      have r2 : weirkeeperlaw13_FlatBack.j2 (K + 79998) c (B bm) lo hi op = some true := by
        simp only [weirkeeperlaw13_FlatBack.j2, r3]
        rw [changes_eq c _ (by omega), Option.bind_some]
        rcases one (Pr := fun _ => True) encC_le (fun x q _ h => gC_of x q h) c (fun _ _ => trivial) c30 with ⟨s, h1, h2, h3⟩ | h
        · rw [h1]
          simp only
          rw [if_pos trivial, if_pos (by rw [B_size, B_size]; omega), B_append, takeChanges_eq _ (by rw [List.length_append]; omega) _ (by omega), Option.bind_some, h3]
          simp only
          rw [same13 c (by omega) _ (by omega)]
          simp
        · rw [h, if_neg (by decide)]
      have r1 : weirkeeperlaw13_FlatBack.j1 (K + 79999) p c (B bm) lo hi op = some true := by
        simp only [weirkeeperlaw13_FlatBack.j1, r2]
        rw [pairs_eq p _ (by omega), Option.bind_some]
        rcases one (Pr := fun _ => True) encP_le (fun x q _ h => gP_of x q h) p (fun _ _ => trivial) p30 with ⟨s, h1, h2, h3⟩ | h
        · rw [h1]
          simp only
          rw [if_pos trivial, if_pos (by rw [B_size, B_size]; omega), B_append, takePairs_eq _ (by rw [List.length_append]; omega) _ (by omega), Option.bind_some, h3]
          simp only
          rw [same03 p (by omega) _ (by omega)]
          simp
        · rw [h, if_neg (by decide)]
      simp only [weirkeeperlaw13_FlatBack.j0, r1]
      rw [if_neg (by decide), notes_eq n fn _ (by omega), Option.bind_some]
      rcases one (Pr := nfine) encN_le (fun x q hp h => gN_of x q hp h) n fn n30 with ⟨s, h1, h2, h3⟩ | h
      · rw [h1]
        simp only
        rw [if_pos trivial, if_pos (by rw [B_size, B_size]; omega), B_append, takeNotes_eq _ (by rw [List.length_append]; omega) _ (by omega), Option.bind_some, h3]
        simp only
        rw [same09 n (by omega) _ (by omega)]
        simp
      · rw [h, if_neg (by decide)]
    · rw [decide_eq_false hs]
      exact hA _ _ _ _ _ _ _
end Go.Proofs.Ythidkdlmpkeogaa.PlFlatBack
