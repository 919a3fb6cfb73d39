/- Records take as many places as their texts need, one behind the other; they are refused just if there are not so many. -/
import Derived.Test.YtpkapldkmleppaaRows
import Derived.Test.YtpkapldkmleppaaFlaw08JournalNeeds
import Derived.Test.YtpkapldkmleppaaPureJournalNeeds
import Derived.Test.YtpkapldkmleppaaOpen
import Derived.WalkKit
import Derived.ProofKit
import Derived.OpenShut
import Derived.ShutString
import Derived.ChangeOld
import Derived.Below
import Derived.SizedLaws
namespace Go.Proofs.Ytpkapldkmleppaa.journalNeeds
open Go.ChangeShapes Go.WideShapes Go.ChangeAt Go.RowKit
open Go.ChangeMaps (open_string shut_string)
open Go.Proofs.YtpkapldkmleppaaW.PrintWords Go.Proofs.YtpkapldkmleppaaW.PrintMore
set_option linter.unusedVariables false
theorem own : ownKnob Try.prog.godebug = none := by kernel_rfl
theorem laid : laidOutB Try.prog = true := by kernel_rfl
theorem op9 : Open.Opens Try.prog 9 Kd.string (fun x => x.size ≤ maxLen) := Open.opens_string Try.underlying9
theorem op22 : Open.Opens Try.prog 22 (Kd.slice 9 Kd.string) (fun x => ((∀ yy ∈ x, yy.size ≤ maxLen) ∧ x.length ≤ maxLen)) := Open.opens_slice Try.underlying22 (by kernel_rfl) op9
set_option maxRecDepth 100000 in
theorem lifted (os : Os) (started : os.Started) (H : Type) (enc : TypeId × Value → H) :
    ReturnsInHanded {} Try.checked os 12 .any (Rows.journalNeedsSpec.pre6 enc Try.prog Try.f12 Rows.journalNeedsRow.domain false) (Rows.journalNeedsSpec.post enc Try.prog Try.f12 false true false false) := by
  refine returnsInHanded_of_change_sized (C := Try.checked) own started (by kernel_rfl) Try.func12
    (ChangeSpec.witness6 (enc := enc) (C := Try.checked) false ⟨#[], #[.int .u32 0, .int .u8 0, .slice none 0 0], []⟩ 8 (by kernel_rfl) (by kernel_rfl) (by kernel_rfl) (by kernel_rfl)) ?_
  intro W base args ds gs before hval0 hW hcnd hsz0 _
  have hsz : (DataW.weightsEach Try.prog (Try.f12.params.toList ++ Rows.journalNeedsSpec.plain.varTypes Try.prog) (ds ++ gs)).all (· ≤ reachBytes) = true := hsz0
  have hval : ∀ (j : Nat) t v, Try.f12.params[j]? = some t → args[j]? = some v → Value.okWide Try.prog W .any base t v := hval0
  have hW' := hW
  obtain ⟨p, q, hA0, hV, rfl, hfz, hnd⟩ := hW
  have hA : DataW.TrodAll enc Try.prog W 0 (fun _ => true) true Try.f12.params.toList args.toList ds p := hA0
  rw [Try.params12] at hA hval hsz
  obtain ⟨v0, vs0, d0, ds0, p0, q0, hargs, rfl, rfl, h0, r0⟩ := trodAll_cons hA
  obtain ⟨v1, vs1, d1, ds1, p1, q1, rfl, rfl, rfl, h1, r1⟩ := trodAll_cons r0
  obtain ⟨v2, vs2, d2, ds2, p2, q2, rfl, rfl, rfl, h2, r2⟩ := trodAll_cons r1
  obtain ⟨rfl, rfl, rfl⟩ := trodAll_nil r2
  obtain rfl : args = #[v0, v1, v2] := by cases args; simp_all
  obtain ⟨rfl, rfl⟩ := trodVars_none hV
  obtain ⟨a0, rfl, rfl, rfl, w0⟩ := open_int Try.underlying42 (hval 0 42 v0 rfl rfl) h0
  obtain ⟨a1, rfl, rfl, rfl, w1⟩ := open_int Try.underlying5 (hval 1 5 v1 rfl rfl) h1
  obtain ⟨A2, c2, l2, rfl, hl2, hC2, w2⟩ := Open.arg_slice Try.underlying22 (hval 2 22 v2 rfl rfl) h2 op22
  clear hA0 hval0 hsz0 hsz
  obtain ⟨k, hk⟩ := PlJournalNeeds.pure a0 a1 l2 w0 w1 w2
  refine (F.weirkeeperlaw08_JournalNeeds.calls k a0 a1 A2 c2 l2 W hC2 hl2 hk).mono fun e W' ⟨he, bel⟩ => ?_
  subst he
  exact ⟨_, rfl, _, _, _, [], _, [], hW', trodAll_mk1 (shut_bool Try.underlying4 _), (trodAll_cons_mk (shut_int Try.underlying42 w0) (trodAll_cons_mk (shut_int Try.underlying5 w1) (trodAll_cons_mk (Open.trod_after laid (by kernel_rfl) (of_decide_eq_true (by kernel_rfl)) h2 bel) trodAll_mk0))), rfl, bel.frame _, fun h => by cases h⟩
theorem over : Rows.journalNeedsRow.holds Try.pinned (OpenSpec.ofChange Rows.journalNeedsSpec) :=
  OpenClaim.holds_of_wide 12 Try.f12 rfl rfl rfl rfl rfl rfl rfl ⟨rfl, rfl, rfl, rfl, rfl⟩ rfl rfl rfl rfl rfl (by kernel_rfl) Try.func12 (by kernel_rfl)
    (of_decide_eq_true (by kernel_rfl)) (by unfold Func.isWrapper; first | (rw [if_pos (by decide +kernel)]; kernel_rfl) | (rw [if_neg (by decide +kernel)]; exact ⟨rfl, rfl⟩))
    (fun os started H enc _ => lifted os started H enc)
end Go.Proofs.Ytpkapldkmleppaa.journalNeeds
namespace Go.Proofs.Ytpkapldkmleppaa
/-- The row, under a short name, for the claim. -/
theorem journalNeeds_holds : Rows.JournalNeedsSaid := journalNeeds.over
#print axioms journalNeeds_holds
end Go.Proofs.Ytpkapldkmleppaa
