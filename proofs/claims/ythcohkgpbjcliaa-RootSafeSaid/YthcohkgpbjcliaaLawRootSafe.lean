/- While a root of the next Gen is written, and power goes, whatever of it lasts, the best one is that ahead, or it; once it is flushed, it. -/
import Derived.Test.YthcohkgpbjcliaaRows
import Derived.Test.YthcohkgpbjcliaaFlaw07RootSafe
import Derived.Test.YthcohkgpbjcliaaPureRootSafe
import Derived.Test.YthcohkgpbjcliaaOpen
import Derived.WalkKit
import Derived.ProofKit
import Derived.OpenShut
import Derived.ShutString
import Derived.ChangeOld
import Derived.Below
import Derived.SizedLaws
namespace Go.Proofs.Ythcohkgpbjcliaa.rootSafe
open Go.ChangeShapes Go.WideShapes Go.ChangeAt Go.RowKit
open Go.ChangeMaps (open_string shut_string)
open Go.Proofs.YthcohkgpbjcliaaW.PrintWords Go.Proofs.YthcohkgpbjcliaaW.PrintMore
set_option linter.unusedVariables false
theorem own : ownKnob Try.prog.godebug = none := by kernel_rfl
theorem laid : laidOutB Try.prog = true := by kernel_rfl
theorem op4 : Open.Opens Try.prog 4 Kd.bool (fun x => True) := Open.opens_bool Try.underlying4
theorem op59 : Open.Opens Try.prog 59 (Kd.slice 4 Kd.bool) (fun x => ((∀ yy ∈ x, True) ∧ x.length ≤ maxLen)) := Open.opens_slice Try.underlying59 (by kernel_rfl) op4
set_option maxRecDepth 100000 in
theorem lifted (os : Os) (started : os.Started) (H : Type) (enc : TypeId × Value → H) :
    ReturnsInHanded {} Try.checked os 7 .any (Rows.rootSafeSpec.pre6 enc Try.prog Try.f7 Rows.rootSafeRow.domain false) (Rows.rootSafeSpec.post enc Try.prog Try.f7 false true false false) := by
  refine returnsInHanded_of_change_sized (C := Try.checked) own started (by kernel_rfl) Try.func7
    (ChangeSpec.witness6 (enc := enc) (C := Try.checked) false ⟨#[], #[.int .u8 0, .int .u32 0, .int .u16 0, .int .u16 0, .slice none 0 0], []⟩ 8 (by kernel_rfl) (by kernel_rfl) (by kernel_rfl) (by kernel_rfl)) ?_
  intro W base args ds gs before hval0 hW hcnd hsz0 _
  have hsz : (DataW.weightsEach Try.prog (Try.f7.params.toList ++ Rows.rootSafeSpec.plain.varTypes Try.prog) (ds ++ gs)).all (· ≤ reachBytes) = true := hsz0
  have hval : ∀ (j : Nat) t v, Try.f7.params[j]? = some t → args[j]? = some v → Value.okWide Try.prog W .any base t v := hval0
  have hW' := hW
  obtain ⟨p, q, hA0, hV, rfl, hfz, hnd⟩ := hW
  have hA : DataW.TrodAll enc Try.prog W 0 (fun _ => true) true Try.f7.params.toList args.toList ds p := hA0
  rw [Try.params7] at hA hval hsz
  obtain ⟨v0, vs0, d0, ds0, p0, q0, hargs, rfl, rfl, h0, r0⟩ := trodAll_cons hA
  obtain ⟨v1, vs1, d1, ds1, p1, q1, rfl, rfl, rfl, h1, r1⟩ := trodAll_cons r0
  obtain ⟨v2, vs2, d2, ds2, p2, q2, rfl, rfl, rfl, h2, r2⟩ := trodAll_cons r1
  obtain ⟨v3, vs3, d3, ds3, p3, q3, rfl, rfl, rfl, h3, r3⟩ := trodAll_cons r2
  obtain ⟨v4, vs4, d4, ds4, p4, q4, rfl, rfl, rfl, h4, r4⟩ := trodAll_cons r3
  obtain ⟨rfl, rfl, rfl⟩ := trodAll_nil r4
  obtain rfl : args = #[v0, v1, v2, v3, v4] := by cases args; simp_all
  obtain ⟨rfl, rfl⟩ := trodVars_none hV
  obtain ⟨a0, rfl, rfl, rfl, w0⟩ := open_int Try.underlying5 (hval 0 5 v0 rfl rfl) h0
  obtain ⟨a1, rfl, rfl, rfl, w1⟩ := open_int Try.underlying54 (hval 1 54 v1 rfl rfl) h1
  obtain ⟨a2, rfl, rfl, rfl, w2⟩ := open_int Try.underlying52 (hval 2 52 v2 rfl rfl) h2
  obtain ⟨a3, rfl, rfl, rfl, w3⟩ := open_int Try.underlying52 (hval 3 52 v3 rfl rfl) h3
  obtain ⟨A4, c4, l4, rfl, hl4, hC4, w4⟩ := Open.arg_slice Try.underlying59 (hval 4 59 v4 rfl rfl) h4 op59
  clear hA0 hval0 hsz0 hsz
  obtain ⟨k, hk⟩ := PlRootSafe.pure a0 a1 a2 a3 l4 w0 w1 w2 w3 w4
  refine (F.weirkeeperlaw07_RootSafe.calls k a0 a1 a2 a3 A4 c4 l4 W hC4 hl4 hk).mono fun e W' ⟨he, bel⟩ => ?_
  subst he
  exact ⟨_, rfl, _, _, _, [], _, [], hW', trodAll_mk1 (shut_bool Try.underlying4 _), (trodAll_cons_mk (shut_int Try.underlying5 w0) (trodAll_cons_mk (shut_int Try.underlying54 w1) (trodAll_cons_mk (shut_int Try.underlying52 w2) (trodAll_cons_mk (shut_int Try.underlying52 w3) (trodAll_cons_mk (Open.trod_after laid (by kernel_rfl) (of_decide_eq_true (by kernel_rfl)) h4 bel) trodAll_mk0))))), rfl, bel.frame _, fun h => by cases h⟩
theorem over : Rows.rootSafeRow.holds Try.pinned (OpenSpec.ofChange Rows.rootSafeSpec) :=
  OpenClaim.holds_of_wide 7 Try.f7 rfl rfl rfl rfl rfl rfl rfl ⟨rfl, rfl, rfl, rfl, rfl⟩ rfl rfl rfl rfl rfl (by kernel_rfl) Try.func7 (by kernel_rfl)
    (of_decide_eq_true (by kernel_rfl)) (by unfold Func.isWrapper; first | (rw [if_pos (by decide +kernel)]; kernel_rfl) | (rw [if_neg (by decide +kernel)]; exact ⟨rfl, rfl⟩))
    (fun os started H enc _ => lifted os started H enc)
end Go.Proofs.Ythcohkgpbjcliaa.rootSafe
namespace Go.Proofs.Ythcohkgpbjcliaa
/-- The row, under a short name, for the claim. -/
theorem rootSafe_holds : Rows.RootSafeSaid := rootSafe.over
#print axioms rootSafe_holds
end Go.Proofs.Ythcohkgpbjcliaa
