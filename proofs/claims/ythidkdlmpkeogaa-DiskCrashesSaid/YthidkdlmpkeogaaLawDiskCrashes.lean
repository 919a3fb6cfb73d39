/- Behind a crash each sector is what lasted, or what one write that waited has; if all is kept it is as flushed, if nothing is, as it lasted: of every disk of at most 100 sectors and 60 writes that wait, and at most 60 places; at others, the fixed answer. -/
import Derived.Test.YthidkdlmpkeogaaRows
import Derived.Test.YthidkdlmpkeogaaFlaw04DiskCrashes
import Derived.Test.YthidkdlmpkeogaaPureDiskCrashes
import Derived.Test.YthidkdlmpkeogaaOpen
import Derived.Test.YthidkdlmpkeogaaOpenZ
import Derived.WalkKit
import Derived.ProofKit
import Derived.OpenShut
import Derived.ShutString
import Derived.ChangeOld
import Derived.Below
import Derived.SizedLaws
namespace Go.Proofs.Ythidkdlmpkeogaa.diskCrashes
open Go.ChangeShapes Go.WideShapes Go.ChangeAt Go.RowKit
open Go.ChangeMaps (open_string shut_string)
open Go.Proofs.YthidkdlmpkeogaaW.PrintWords Go.Proofs.YthidkdlmpkeogaaW.PrintMore
set_option linter.unusedVariables false
theorem own : ownKnob Try.prog.godebug = none := by kernel_rfl
theorem laid : laidOutB Try.prog = true := by kernel_rfl
theorem op9 : Open.Opens Try.prog 9 Kd.string (fun x => x.size ≤ maxLen) := Open.opens_string Try.underlying9
theorem op3 : Open.Opens Try.prog 3 (Kd.int .i64) (fun x => (Lit.int .i64 x).wf = true) := Open.opens_int Try.underlying3
theorem op104 : Open.Opens Try.prog 104 F.k104 (fun x => ((Lit.int .i64 x.f0).wf = true ∧ x.f1.size ≤ maxLen)) := Open.opens_struct2 Try.underlying104 (by kernel_rfl) (by kernel_rfl) op3 op9 (fun x : F.S104 => (x.f0, x.f1)) (fun p => ⟨p.1, p.2⟩) (fun _ => rfl)
theorem opz86 : Open.OpensZ Try.prog 86 F.k86 (fun x => ((((∀ yy ∈ x.f0, yy.size ≤ maxLen) ∧ x.f0.length ≤ maxLen) ∧ x.f0.length * 16 ≤ 140737488351232) ∧ (((∀ yy ∈ x.f1, ((Lit.int .i64 yy.f0).wf = true ∧ yy.f1.size ≤ maxLen)) ∧ x.f1.length ≤ maxLen) ∧ x.f1.length * 24 ≤ 140737488351232))) := Open.opensZ_struct2 Try.underlying86 (by kernel_rfl) (by kernel_rfl) (Open.opensZ_slice Try.underlying83 (by kernel_rfl) (by kernel_rfl) op9) (Open.opensZ_slice Try.underlying84 (by kernel_rfl) (by kernel_rfl) op104) (fun x : F.S86 => (x.f0, x.f1)) (fun p => ⟨p.1, p.2⟩) (fun _ => rfl)
theorem op4 : Open.Opens Try.prog 4 Kd.bool (fun x => True) := Open.opens_bool Try.underlying4
theorem op101 : Open.Opens Try.prog 101 (Kd.slice 4 Kd.bool) (fun x => ((∀ yy ∈ x, True) ∧ x.length ≤ maxLen)) := Open.opens_slice Try.underlying101 (by kernel_rfl) op4
set_option maxRecDepth 100000 in
theorem lifted (os : Os) (started : os.Started) (H : Type) (enc : TypeId × Value → H) :
    ReturnsInHanded {} Try.checked os 11 .any (Rows.diskCrashesSpec.pre6 enc Try.prog Try.f11 Rows.diskCrashesRow.domain false) (Rows.diskCrashesSpec.post enc Try.prog Try.f11 false true false false) := by
  refine returnsInHanded_of_change_sized (C := Try.checked) own started (by kernel_rfl) Try.func11
    (ChangeSpec.witness6 (enc := enc) (C := Try.checked) false ⟨#[], #[.agg #[.slice none 0 0, .slice none 0 0], .slice none 0 0], []⟩ 8 (by kernel_rfl) (by kernel_rfl) (by kernel_rfl) (by kernel_rfl)) ?_
  intro W base args ds gs before hval0 hW hcnd hsz0 _
  have hsz : (DataW.weightsEach Try.prog (Try.f11.params.toList ++ Rows.diskCrashesSpec.plain.varTypes Try.prog) (ds ++ gs)).all (· ≤ reachBytes) = true := hsz0
  have hval : ∀ (j : Nat) t v, Try.f11.params[j]? = some t → args[j]? = some v → Value.okWide Try.prog W .any base t v := hval0
  have hW' := hW
  obtain ⟨p, q, hA0, hV, rfl, hfz, hnd⟩ := hW
  have hA : DataW.TrodAll enc Try.prog W 0 (fun _ => true) true Try.f11.params.toList args.toList ds p := hA0
  rw [Try.params11] at hA hval hsz
  obtain ⟨v0, vs0, d0, ds0, p0, q0, hargs, rfl, rfl, h0, r0⟩ := trodAll_cons hA
  obtain ⟨v1, vs1, d1, ds1, p1, q1, rfl, rfl, rfl, h1, r1⟩ := trodAll_cons r0
  obtain ⟨rfl, rfl, rfl⟩ := trodAll_nil r1
  obtain rfl : args = #[v0, v1] := by cases args; simp_all
  obtain ⟨rfl, rfl⟩ := trodVars_none hV
  obtain ⟨cs0, x0, rfl, hk0, w0⟩ := Open.argZ_struct Try.underlying86 (hval 0 86 v0 rfl rfl) h0 opz86 (j := 0) hsz rfl rfl
  obtain ⟨A0_0, c0_0, A0_1, c0_1, rfl, hl0_0, hC0_0, hl0_1, hC0_1⟩ := F.k86_open hk0
  obtain ⟨A1, c1, l1, rfl, hl1, hC1, w1⟩ := Open.arg_slice Try.underlying101 (hval 1 101 v1 rfl rfl) h1 op101
  clear hA0 hval0 hsz0 hsz
  obtain ⟨k, hk⟩ := PlDiskCrashes.pure x0.f0 x0.f1 l1 w0.1 w0.2 w1
  refine (F.weirkeeperlaw04_DiskCrashes.calls k A0_0 c0_0 x0.f0 A0_1 c0_1 x0.f1 A1 c1 l1 W hC0_0 hl0_0 hC0_1 hl0_1 hC1 hl1 hk).mono fun e W' ⟨he, bel⟩ => ?_
  subst he
  exact ⟨_, rfl, _, _, _, [], _, [], hW', trodAll_mk1 (shut_bool Try.underlying4 _), (trodAll_cons_mk (Open.trod_after laid (by kernel_rfl) (of_decide_eq_true (by kernel_rfl)) h0 bel) (trodAll_cons_mk (Open.trod_after laid (by kernel_rfl) (of_decide_eq_true (by kernel_rfl)) h1 bel) trodAll_mk0)), rfl, bel.frame _, fun h => by cases h⟩
theorem over : Rows.diskCrashesRow.holds Try.pinned (OpenSpec.ofChange Rows.diskCrashesSpec) :=
  OpenClaim.holds_of_wide 11 Try.f11 rfl rfl rfl rfl rfl rfl rfl ⟨rfl, rfl, rfl, rfl, rfl⟩ rfl rfl rfl rfl rfl (by kernel_rfl) Try.func11 (by kernel_rfl)
    (of_decide_eq_true (by kernel_rfl)) (by unfold Func.isWrapper; first | (rw [if_pos (by decide +kernel)]; kernel_rfl) | (rw [if_neg (by decide +kernel)]; exact ⟨rfl, rfl⟩))
    (fun os started H enc _ => lifted os started H enc)
end Go.Proofs.Ythidkdlmpkeogaa.diskCrashes
namespace Go.Proofs.Ythidkdlmpkeogaa
/-- The row, under a short name, for the claim. -/
theorem diskCrashes_holds : Rows.DiskCrashesSaid := diskCrashes.over
#print axioms diskCrashes_holds
end Go.Proofs.Ythidkdlmpkeogaa
