/- Two notes as one do to any value what both do, one behind the other; so do three in either grouping; a note stays one. -/
import Derived.Test.YtgccimhdbphenaaFlaw09NoteBoth
import Derived.Test.YtgccimhdbphenaaPlAwake09
namespace Go.Proofs.Ytgccimhdbphenaa.PlNoteBoth
open Go.RowKit Go.Proofs.Ytgccimhdbphenaa.F Go.Proofs.YtgccimhdbphenaaW.PrintWords Go.Proofs.YtgccimhdbphenaaW.PrintLast Go.Proofs.YtgccimhdbphenaaW.PrintMore Go.Proofs.Ytgccimhdbphenaa.Pl
set_option linter.unusedVariables false
set_option linter.unusedSimpArgs false


theorem done1 (v : ByteArray) (has : Bool) (a b : Note) (ha : nfine a) (hb : nfine b) : done v has [both a b] = done v has [a, b] := by
  simp only [done, List.foldl_cons, List.foldl_nil, step_both _ a b ha hb]
theorem done3 (v : ByteArray) (has : Bool) (a b c : Note) (ha : nfine a) (hb : nfine b) (hc : nfine c) : done v has [both (both a b) c] = done v has [both a (both b c)] := by
  rw [done1 v has _ c (both_fine a b ha hb) hc, done1 v has a _ ha (both_fine b c hb hc)]
  simp only [done, List.foldl_cons, List.foldl_nil, ← step_both _ _ _ ha hb, ← step_both _ _ _ hb hc]

theorem main (v : ByteArray) (has : Bool) (a b c : Note) (fa : nfine a) (fb : nfine b) (fc : nfine c) (K : Nat) (hK : ∀ k, K ≤ k → weirkeeperlaw09_awake.f k = some true) :
    F.weirkeeperlaw09_NoteBoth.f (K + 100) v has a.f0 a.f1 a.f2 a.f3 b.f0 b.f1 b.f2 b.f3 c.f0 c.f1 c.f2 c.f3 = some true := by
  have one : ∀ n : Note, nfine n → ∀ m ∈ [n], nfine m := by intro n hn m hm; rw [List.mem_singleton] at hm; subst hm; exact hn
  have fab := both_fine a b fa fb
  have fbc := both_fine b c fb fc
  have D0 := done_eq v has [a, b] (by intro n hn; rcases List.mem_cons.1 hn with rfl | hn; exact fa; exact one b fb n hn) (by simp) (K + 99) (by simp)
  have D1 := done_eq v has [both a b] (one _ fab) (by simp) (K + 99) (by simp)
  have D2 := done_eq v has [both (both a b) c] (one _ (both_fine _ c fab fc)) (by simp) (K + 99) (by simp)
  have D3 := done_eq v has [both a (both b c)] (one _ (both_fine a _ fa fbc)) (by simp) (K + 99) (by simp)
  rw [done1 v has a b fa fb] at D1
  rw [done3 v has a b c fa fb fc] at D2
  obtain ⟨s, hs⟩ := short_some [a, b, c] (by simp) (K + 100) (by simp)
  have B0 := both_eq a b fb
  have B1 := both_eq b c fc (K + 99) (by omega)
  have B2 := both_eq (both a b) c fc (K + 99) (by omega)
  have B3 := both_eq a (both b c) fbc (K + 99) (by omega)
  have R0 := right_eq a (K + 99) (by omega)
  have R1 := right_eq b (K + 99) (by omega)
  have R2 := right_eq (both a b) (K + 99) (by omega)
  have k0 := both_key a b
  have hr := both_right a b
  unfold weirkeeperlaw09_NoteBoth.f
  change (if (v.size : Int) > 300 then _ else (weirkeeperlaw09_short.f (K + 100) [a, b, c]).bind _) = _
  by_cases hv : (v.size : Int) > 300
  · rw [if_pos hv]
    simp only [weirkeeperlaw09_NoteBoth.j0]
    rw [if_pos trivial, hK (K + 99) (by omega)]
    rfl
  · rw [if_neg hv, hs, Option.bind_some]
    cases s with
    | false =>
      simp only [weirkeeperlaw09_NoteBoth.j0]
      rw [if_pos (by decide), hK (K + 99) (by omega)]
      rfl
    | true =>
      simp only [weirkeeperlaw09_NoteBoth.j0]
      rw [if_neg (by decide)]
      change (note_Done.f (K + 99) v has [a, b]).bind _ = _
      rw [D0, Option.bind_some, B0 (K + 99) (by omega), Option.bind_some]
      change (note_Done.f (K + 99) v has [both a b]).bind _ = _
      rw [D1, Option.bind_some, Option.bind_some]
      simp only
      rw [B2, Option.bind_some]
      change (note_Done.f (K + 99) v has [both (both a b) c]).bind _ = _
      rw [D2, Option.bind_some, B1, Option.bind_some]
      simp only
      rw [B3, Option.bind_some]
      change (note_Done.f (K + 99) v has [both a (both b c)]).bind _ = _
      rw [D3, Option.bind_some, R0, Option.bind_some]
      have fin : ∀ x, (x = true → False) → weirkeeperlaw09_NoteBoth.j1 (K + 98 + 1) (done v has [a, b]).1 (done v has [a, b]).2 (done v has [a, b]).1 (done v has [a, b]).2 (done v has [both a (both b c)]).1 (done v has [both a (both b c)]).2 (done v has [both a (both b c)]).1 (done v has [both a (both b c)]).2 x a.f0 a.f1 a.f2 a.f3 b.f0 b.f1 b.f2 b.f3 = some true := by
        intro x hx
        simp only [weirkeeperlaw09_NoteBoth.j1]
        rw [if_neg hx, if_pos trivial, if_pos (by simp), if_pos trivial, if_pos (by simp), B0 (K + 98) (by omega), Option.bind_some, k0, if_pos rfl, hK (K + 98) (by omega)]
        rfl
      by_cases ra : nright a = true
      · rw [if_pos ra, R1, Option.bind_some]
        by_cases rb : nright b = true
        · rw [if_pos rb, Option.bind_some]
          simp only
          rw [R2, Option.bind_some, hr ra rb]
          exact fin _ (by decide)
        · rw [if_neg rb]
          exact fin _ (by decide)
      · rw [if_neg ra]
        exact fin _ (by decide)

theorem pure : ∀ (a0 : ByteArray) (a1 : Bool) (a2_0 : Int) (a2_1 : ByteArray) (a2_2 : ByteArray) (a2_3 : Int) (a3_0 : Int) (a3_1 : ByteArray) (a3_2 : ByteArray) (a3_3 : Int) (a4_0 : Int) (a4_1 : ByteArray) (a4_2 : ByteArray) (a4_3 : Int), a0.size ≤ 140737488351232 → (Lit.int .i64 a2_0).wf = true → a2_1.size ≤ maxLen → a2_2.size ≤ maxLen → (Lit.int .u64 a2_3).wf = true → (Lit.int .i64 a3_0).wf = true → a3_1.size ≤ maxLen → a3_2.size ≤ maxLen → (Lit.int .u64 a3_3).wf = true → (Lit.int .i64 a4_0).wf = true → a4_1.size ≤ maxLen → a4_2.size ≤ maxLen → (Lit.int .u64 a4_3).wf = true → ∃ k, F.weirkeeperlaw09_NoteBoth.f k a0 a1 a2_0 a2_1 a2_2 a2_3 a3_0 a3_1 a3_2 a3_3 a4_0 a4_1 a4_2 a4_3 = some true := by
  intro v has a0 a1 a2 a3 b0 b1 b2 b3 c0 c1 c2 c3 _ _ _ _ ha _ _ _ hb _ _ _ hc
  obtain ⟨K, hK⟩ := awake09_holds
  exact ⟨K + 100, main v has ⟨a0, a1, a2, a3⟩ ⟨b0, b1, b2, b3⟩ ⟨c0, c1, c2, c3⟩ (wf_u64 ha) (wf_u64 hb) (wf_u64 hc) K hK⟩
end Go.Proofs.Ytgccimhdbphenaa.PlNoteBoth
