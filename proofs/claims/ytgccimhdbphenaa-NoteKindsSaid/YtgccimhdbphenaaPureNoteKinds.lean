/- Behind a Put there is just its Value, behind a Del nothing, behind an Add eight bytes, behind what is no kind what was there. -/
import Derived.Test.YtgccimhdbphenaaFlaw09NoteKinds
import Derived.Test.YtgccimhdbphenaaPlAwake09
namespace Go.Proofs.Ytgccimhdbphenaa.PlNoteKinds
open Go.RowKit Go.Proofs.Ytgccimhdbphenaa.F Go.Proofs.YtgccimhdbphenaaW.PrintWords Go.Proofs.YtgccimhdbphenaaW.PrintLast Go.Proofs.YtgccimhdbphenaaW.PrintMore Go.Proofs.Ytgccimhdbphenaa.Pl
set_option linter.unusedVariables false
set_option linter.unusedSimpArgs false


theorem pure : ∀ (a0 : ByteArray) (a1 : Bool) (a2_0 : Int) (a2_1 : ByteArray) (a2_2 : ByteArray) (a2_3 : Int), a0.size ≤ 140737488351232 → (Lit.int .i64 a2_0).wf = true → a2_1.size ≤ maxLen → a2_2.size ≤ maxLen → (Lit.int .u64 a2_3).wf = true → ∃ k, F.weirkeeperlaw09_NoteKinds.f k a0 a1 a2_0 a2_1 a2_2 a2_3 = some true := by
  intro v has n0 n1 n2 n3 _ _ _ _ h3
  obtain ⟨K, hK⟩ := awake09_holds
  refine ⟨K + 100, ?_⟩
  unfold weirkeeperlaw09_NoteKinds.f
  simp only [weirkeeperlaw09_NoteKinds.j0]
  have ha := hK (K + 99) (by omega)
  have hd := done_eq v has [⟨n0, n1, n2, n3⟩] (by intro n hn; rw [List.mem_singleton] at hn; subst hn; exact wf_u64 h3) (by simp) (K + 99) (by simp)
  obtain ⟨b, hb⟩ := short_some [⟨n0, n1, n2, n3⟩] (by simp) (K + 100) (by simp)
  rw [ha, hb, hd]
  by_cases hs : (v.size : Int) > 300
  · rw [if_pos hs]; rfl
  · rw [if_neg hs, Option.bind_some]
    cases b with
    | false => rfl
    | true =>
      by_cases c1 : n0 = 1
      · simp [done, nstep, c1]
      · by_cases c2 : n0 = 2
        · simp [done, nstep, c2, B_toList]
        · by_cases c3 : n0 = 3
          · simp [done, nstep, c3, num8_size]
          · cases has <;> simp [done, nstep, c1, c2, c3, B_toList]
end Go.Proofs.Ytgccimhdbphenaa.PlNoteKinds
