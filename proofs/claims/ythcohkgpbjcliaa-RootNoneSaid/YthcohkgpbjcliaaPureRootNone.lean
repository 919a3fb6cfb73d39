/- On a new disk, or one that is none, there is no root. -/
import Derived.Test.YthcohkgpbjcliaaFlaw07RootNone
import Derived.Test.YthcohkgpbjcliaaPlRoot
import Derived.Test.YthcohkgpbjcliaaPlAwake07
namespace Go.Proofs.Ythcohkgpbjcliaa.PlRootNone
open Go.RowKit Go.Proofs.Ythcohkgpbjcliaa.F Go.Proofs.YthcohkgpbjcliaaW.PrintWords Go.Proofs.YthcohkgpbjcliaaW.PrintLast Go.Proofs.YthcohkgpbjcliaaW.PrintMore Go.Proofs.Ythcohkgpbjcliaa.Pl
set_option linter.unusedVariables false
set_option linter.unusedSimpArgs false
theorem pure : ∀ (a0 : Int) (a1 : Int), (Lit.int .i64 a0).wf = true → (Lit.int .i64 a1).wf = true → ∃ k, F.weirkeeperlaw07_RootNone.f k a0 a1 = some true := by
  intro a0 a1 h0 h1
  refine ⟨200, ?_⟩
  have hz : ∃ (S : List ByteArray) (W : List Wr) (e : Int), disk_New.f a0 = some (S, W, e) ∧ (e = if 1 ≤ a0 ∧ a0 ≤ 512 then 0 else 1) ∧ ∀ a : Int, root_Read.f S W a = some (0, 0, 0, false) := by
    by_cases c : 1 ≤ a0 ∧ a0 ≤ 512
    · obtain ⟨n, rfl⟩ := Int.eq_ofNat_of_zero_le (by omega : 0 ≤ a0)
      have hI := Img.newN n (by omega) (by omega)
      refine ⟨_, _, _, New_ok c.1 c.2, by rw [if_pos c], fun a => ?_⟩
      rw [Int.toNat_natCast]
      by_cases ca : 0 ≤ a ∧ a < 2 ∧ a < n
      · obtain ⟨b, rfl⟩ := Int.eq_ofNat_of_zero_le ca.1
        rw [hI.rread (by omega) b (by rw [List.length_replicate]; omega), List.getElem_replicate, rootS_zero]
      · exact rread_bad (hI.fit (by omega)) a (fun hh => ca ⟨hh.2.1, hh.2.2.1, by have := hh.2.2.2; rw [List.length_replicate] at this; omega⟩)
    · refine ⟨_, _, _, New_bad c, by rw [if_neg c], fun a => rread_bad (fit_of (by simp) (by simp)) a (fun hh => ?_)⟩
      have := ((right_iff _ _).1 hh.1).1
      simp at this
  obtain ⟨S, W, e, hn, he, hr⟩ := hz
  have hb := best_eq S W _ _ (hr 0) (hr 1) 200 (by omega)
  unfold weirkeeperlaw07_RootNone.f
  rw [hn, Option.bind_some]
  simp only
  rw [hb, Option.bind_some, hr, Option.bind_some]
  have e1 : bestR (0, 0, 0, false) (0, 0, 0, false) = (0, 0, 0, 3) := rfl
  rw [e1]
  have hq : (if a0 ≥ 1 then ((e == 0) == (decide (a0 ≤ 512))) = true else ((e == 0) == false) = true) := by
    by_cases c : a0 ≥ 1
    · rw [if_pos c, he]
      by_cases d : a0 ≤ 512
      · rw [if_pos ⟨c, d⟩, decide_eq_true d]; rfl
      · rw [if_neg (fun h => d h.2), decide_eq_false d]; rfl
    · rw [if_neg c, he, if_neg (fun h => c h.1)]; rfl
  by_cases c : a0 ≥ 1
  · rw [if_pos c] at hq ⊢
    rw [if_pos hq]
    simp only [awake7At 200 (by omega)]
    rfl
  · rw [if_neg c] at hq ⊢
    rw [if_pos hq]
    simp only [awake7At 200 (by omega)]
    rfl
end Go.Proofs.Ythcohkgpbjcliaa.PlRootNone
