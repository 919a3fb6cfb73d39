/- A disk that is flushed, or behind a crash, is the same when it is flushed, or behind a crash, again; what is put in two parts is put at once. -/
import Derived.Test.YthidkdlmpkeogaaFlaw04DiskOnce
import Derived.Test.YthidkdlmpkeogaaPlDisk2
import Derived.Test.YthidkdlmpkeogaaPlAwake04
namespace Go.Proofs.Ythidkdlmpkeogaa.PlDiskOnce
open Go.RowKit Go.Proofs.Ythidkdlmpkeogaa.F Go.Proofs.YthidkdlmpkeogaaW.PrintWords Go.Proofs.YthidkdlmpkeogaaW.PrintLast Go.Proofs.YthidkdlmpkeogaaW.PrintMore Go.Proofs.Ythidkdlmpkeogaa.Pl
set_option linter.unusedVariables false
set_option linter.unusedSimpArgs false
theorem putW_app : ∀ (T U : List ByteArray) (a : Int), putW a (T ++ U) = putW a T ++ putW (a + T.length) U
  | [], U, a => by simp [putW]
  | t :: T, U, a => by
    rw [List.cons_append, putW, putW_app T U, putW, List.cons_append, List.length_cons]
    congr 3
    omega
theorem same_self (S : List ByteArray) (W : List Wr) (hS : S.length ≤ 1000) (hW : W.length ≤ 1000) (k : Nat) (hk : 3000 ≤ k) : weirkeeperlaw04_same.f k S W S (refW W) = some true := by
  have hl : (refW W).length = W.length := by rw [refW, List.length_map]
  unfold weirkeeperlaw04_same.f weirkeeperlaw04_Ref.f
  rw [if_pos (by omega), Option.bind_some]
  simp only
  rw [same_eq S S (refW W) (refW W) (by omega) (by omega) k (by omega), Option.bind_some, decide_eq_true ⟨rfl, rfl⟩]
theorem ref_f (S : List ByteArray) (W : List Wr) (hW : W.length ≤ 1000) (k : Nat) : weirkeeperlaw04_Ref.f k S W = some (S, refW W) := if_pos (by omega)
theorem last_again (X : List ByteArray) (h : disk_right X [] = true) (hX : X.length ≤ 1000) (l : List Bool) : disk_Flush.f X [] = some (X, []) ∧ disk_Crash.f X [] l = some (X, []) := by
  have hf : disk_fit X [] = true := fit_of (by omega) (by simp)
  exact ⟨by rw [Flush_eq hf, lasting_right h]; rfl, by rw [Crash_eq hf, lasting_right h]; rfl⟩
theorem puts (S : List ByteArray) (W : List Wr) (hS : S.length ≤ 100) (hW : W.length ≤ 60) (hr : disk_right S W = true) (a : Int) (l2 l3 : List ByteArray) (h2 : l2.length ≤ 30) (h3 : l3.length ≤ 30) (k : Nat) (hk : 4000 ≤ k) :
    weirkeeperlaw04_DiskOnce.j1 k a l2 l3 false S W = some true := by
  obtain ⟨k, rfl⟩ : ∃ m, k = m + 1 := ⟨k - 1, by omega⟩
  have hf : disk_fit S W = true := fit_of (by omega) (by omega)
  rw [weirkeeperlaw04_DiskOnce.j1, if_neg (by decide)]
  cases hp : (disk_right S W && thereB S.length a (l2.length : Int) && !(l2.any fun s => s.size != 32)) with
  | false =>
    rw [Put_bad hf hp, Option.bind_some]
    simp only
    rw [if_neg (by decide), ref_f S W (by omega), Option.bind_some]
    simp only
    rw [same_self S W (by omega) (by omega) k (by omega), Option.bind_some, if_pos rfl, awake_eq]
    rfl
  | true =>
    simp only [Bool.and_eq_true, Bool.not_eq_true'] at hp
    obtain ⟨⟨_, ht⟩, hs⟩ := hp
    have hT := shorts_false hs
    have hth := (there_iff _ _ _).1 ht
    have hr1 := put_right hr ht hT
    have hl1 : (W ++ putW a l2).length = W.length + l2.length := by rw [List.length_append, putW_length]
    have hf1 : disk_fit S (W ++ putW a l2) = true := fit_of (by omega) (by omega)
    rw [Put_ok hf hr ht hT, Option.bind_some]
    simp only
    rw [if_pos trivial, wrap64_in (by omega) (by omega)]
    cases hq : (thereB S.length (a + (l2.length : Int)) (l3.length : Int) && !(l3.any fun s => s.size != 32)) with
    | true =>
      simp only [Bool.and_eq_true, Bool.not_eq_true'] at hq
      obtain ⟨ht3, hs3⟩ := hq
      have hT3 := shorts_false hs3
      have hth3 := (there_iff _ _ _).1 ht3
      have htb : thereB S.length a ((l2 ++ l3).length : Int) = true := (there_iff _ _ _).2 ⟨by omega, by rw [List.length_append]; omega, by omega, by rw [List.length_append]; omega⟩
      have hTb : ∀ t ∈ l2 ++ l3, t.size = 32 := fun t h => by
        rcases List.mem_append.1 h with h | h
        · exact hT t h
        · exact hT3 t h
      have hl2 : (W ++ putW a (l2 ++ l3)).length = W.length + (l2.length + l3.length) := by rw [List.length_append, putW_length, List.length_append]
      rw [Put_ok hf1 hr1 ht3 hT3, Option.bind_some, Option.bind_some, List.nil_append, if_pos (by simp only [List.length_nil]; omega), Option.bind_some, if_pos (by omega), Put_ok hf hr htb hTb, Option.bind_some]
      simp only
      rw [if_pos trivial, if_pos trivial, List.append_assoc, ← putW_app, ref_f S _ (by omega), Option.bind_some]
      simp only
      rw [same_self S _ (by omega) (by omega) k (by omega), Option.bind_some, if_pos rfl, awake_eq]
      rfl
    | false =>
      have b1 : (disk_right S (W ++ putW a l2) && thereB S.length (a + (l2.length : Int)) (l3.length : Int) && !(l3.any fun s => s.size != 32)) = false := by rw [Bool.and_assoc, hq, Bool.and_false]
      have b2 : (disk_right S W && thereB S.length a ((l2 ++ l3).length : Int) && !((l2 ++ l3).any fun s => s.size != 32)) = false := by
        rw [Bool.eq_false_iff]
        intro h
        simp only [Bool.and_eq_true, Bool.not_eq_true', List.any_append, Bool.or_eq_false_iff] at h
        have h4 := (there_iff _ _ _).1 h.1.2
        rw [List.length_append] at h4
        have : (thereB S.length (a + (l2.length : Int)) (l3.length : Int) && !(l3.any fun s => s.size != 32)) = true := by
          rw [h.2.2, (there_iff _ _ _).2 ⟨by omega, by omega, by omega, by omega⟩]
          rfl
        rw [hq] at this
        cases this
      rw [Put_bad hf1 b1, Option.bind_some, Option.bind_some, List.nil_append, if_pos (by simp only [List.length_nil]; omega), Option.bind_some, if_pos (by omega), Put_bad hf b2, Option.bind_some]
      simp only
      rw [if_pos trivial, if_neg (by decide), awake_eq]
      rfl
theorem pure : ∀ (l0_0 : List ByteArray) (l0_1 : List F.S104) (a1 : Int) (l2 : List ByteArray) (l3 : List ByteArray) (l4 : List Bool) (l5 : List Bool), (((∀ yy ∈ l0_0, yy.size ≤ maxLen) ∧ l0_0.length ≤ maxLen) ∧ l0_0.length * 16 ≤ 140737488351232) → (((∀ yy ∈ l0_1, ((Lit.int .i64 yy.f0).wf = true ∧ yy.f1.size ≤ maxLen)) ∧ l0_1.length ≤ maxLen) ∧ l0_1.length * 24 ≤ 140737488351232) → (Lit.int .i64 a1).wf = true → ((∀ yy ∈ l2, yy.size ≤ maxLen) ∧ l2.length ≤ maxLen) → ((∀ yy ∈ l3, yy.size ≤ maxLen) ∧ l3.length ≤ maxLen) → ((∀ yy ∈ l4, True) ∧ l4.length ≤ maxLen) → ((∀ yy ∈ l5, True) ∧ l5.length ≤ maxLen) → ∃ k, F.weirkeeperlaw04_DiskOnce.f k l0_0 l0_1 a1 l2 l3 l4 l5 = some true := by
  intro S W a l2 l3 l4 l5 _ hW _ _ _ _ _
  refine ⟨5001, ?_⟩
  have hj : weirkeeperlaw04_DiskOnce.j0 5001 a l2 l3 l4 l5 true S W = some true := by
    rw [weirkeeperlaw04_DiskOnce.j0, if_pos rfl, awake_eq]
    rfl
  unfold weirkeeperlaw04_DiskOnce.f
  rw [show weirkeeperlaw04_Ref.f 5001 S W = some (S, refW W) from if_pos hW.2, Option.bind_some]
  simp only
  rw [small_eq, Option.bind_some, show (refW W).length = W.length by rw [refW, List.length_map]]
  by_cases c : S.length ≤ 100 ∧ W.length ≤ 60
  · rw [if_pos (decide_eq_true c)]
    by_cases c1 : (l2.length : Int) > 30
    · rw [if_pos c1, hj]
    by_cases c2 : (l3.length : Int) > 30
    · rw [if_neg c1, if_pos c2, hj]
    by_cases c3 : (l4.length : Int) > 60
    · rw [if_neg c1, if_neg c2, if_pos c3, hj]
    by_cases c4 : (l5.length : Int) > 60
    · rw [if_neg c1, if_neg c2, if_neg c3, if_pos c4, hj]
    rw [if_neg c1, if_neg c2, if_neg c3, if_neg c4, Right_eq, Option.bind_some]
    cases hr : disk_right S W with
    | false => exact hj
    | true =>
      have hf : disk_fit S W = true := fit_of (by omega) (by omega)
      have hF : disk_Flush.f S W = some (applyW all 0 W S, []) := by rw [Flush_eq hf, lasting_right hr]
      have hC : disk_Crash.f S W l4 = some (applyW (fun i => l4.getD i false) 0 W S, []) := by rw [Crash_eq hf, lasting_right hr]
      have hFr := last_right hr all
      have hCr := last_right hr (fun i => l4.getD i false)
      have hFl : (applyW all 0 W S).length = S.length := by rw [applyW_length]
      have hCl : (applyW (fun i => l4.getD i false) 0 W S).length = S.length := by rw [applyW_length]
      generalize applyW all 0 W S = X at hF hFr hFl
      generalize applyW (fun i => l4.getD i false) 0 W S = Y at hC hCr hCl
      have hX := last_again X hFr (by omega) l5
      have hY := last_again Y hCr (by omega) l5
      show weirkeeperlaw04_DiskOnce.j0 5001 a l2 l3 l4 l5 false S W = some true
      rw [weirkeeperlaw04_DiskOnce.j0, if_neg (by decide), hF, Option.bind_some, hC, Option.bind_some]
      simp only
      rw [hX.1, Option.bind_some, ref_f X [] (by simp), Option.bind_some]
      simp only
      rw [same_self X [] (by omega) (by simp) 5000 (by omega), Option.bind_some, if_pos rfl, hY.2, Option.bind_some, ref_f Y [] (by simp), Option.bind_some]
      simp only
      rw [same_self Y [] (by omega) (by simp) 5000 (by omega), Option.bind_some, if_pos rfl, hY.1, Option.bind_some, Option.bind_some]
      simp only
      rw [same_self Y [] (by omega) (by simp) 5000 (by omega), Option.bind_some]
      exact puts S W (by omega) (by omega) hr a l2 l3 (by omega) (by omega) 5000 (by omega)
  · rw [if_neg (by rw [decide_eq_true_eq]; exact c), hj]
end Go.Proofs.Ythidkdlmpkeogaa.PlDiskOnce
