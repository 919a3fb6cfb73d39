import Derived.Test.YthcohkgpbjcliaaRows
import Derived.Test.YthcohkgpbjcliaaFlaw07RootTells
import Derived.Test.YthcohkgpbjcliaaPlAllRX
import Derived.WalkKit
import Derived.ProofKit
import Derived.OpenShut
import Derived.ShutString
import Derived.ChangeOld
import Derived.Below
import Derived.SizedLaws
namespace Go.Proofs.Ythcohkgpbjcliaa.rootTells
open Go.ChangeShapes Go.WideShapes Go.ChangeAt Go.RowKit
open Go.ChangeMaps (open_string shut_string)
open Go.Proofs.YthcohkgpbjcliaaW.PrintWords Go.Proofs.YthcohkgpbjcliaaW.PrintMore
set_option linter.unusedVariables false
theorem own : ownKnob Try.prog.godebug = none := by kernel_rfl
theorem laid : laidOutB Try.prog = true := by kernel_rfl
theorem op9 : Open.Opens Try.prog 9 Kd.string (fun x => x.size ≤ maxLen) := Open.opens_string Try.underlying9
theorem op3 : Open.Opens Try.prog 3 (Kd.int .i64) (fun x => (Lit.int .i64 x).wf = true) := Open.opens_int Try.underlying3
theorem op83 : Open.Opens Try.prog 83 F.k83 (fun x => ((Lit.int .i64 x.f0).wf = true ∧ x.f1.size ≤ maxLen)) := Open.opens_struct2 Try.underlying83 (by kernel_rfl) (by kernel_rfl) op3 op9 (fun x : F.S83 => (x.f0, x.f1)) (fun p => ⟨p.1, p.2⟩) (fun _ => rfl)
theorem opz25 : Open.OpensZ Try.prog 25 F.k25 (fun x => ((((∀ yy ∈ x.f0, yy.size ≤ maxLen) ∧ x.f0.length ≤ maxLen) ∧ x.f0.length * 16 ≤ 140737488351232) ∧ (((∀ yy ∈ x.f1, ((Lit.int .i64 yy.f0).wf = true ∧ yy.f1.size ≤ maxLen)) ∧ x.f1.length ≤ maxLen) ∧ x.f1.length * 24 ≤ 140737488351232))) := Open.opensZ_struct2 Try.underlying25 (by kernel_rfl) (by kernel_rfl) (Open.opensZ_slice Try.underlying22 (by kernel_rfl) (by kernel_rfl) op9) (Open.opensZ_slice Try.underlying23 (by kernel_rfl) (by kernel_rfl) op83) (fun x : F.S25 => (x.f0, x.f1)) (fun p => ⟨p.1, p.2⟩) (fun _ => rfl)
theorem op27 : Open.Opens Try.prog 27 F.k27 (fun x => ((Lit.int .i64 x.f0).wf = true ∧ (Lit.int .i64 x.f1).wf = true ∧ (Lit.int .i64 x.f2).wf = true)) := Open.opens_struct3 Try.underlying27 (by kernel_rfl) (by kernel_rfl) op3 op3 op3 (fun x : F.S27 => (x.f0, x.f1, x.f2)) (fun p => ⟨p.1, p.2.1, p.2.2⟩) (fun _ => rfl)
set_option maxRecDepth 100000 in
theorem lifted (os : Os) (started : os.Started) (H : Type) (enc : TypeId × Value → H) :
    ReturnsInHanded {} Try.checked os 3 .any (Rows.rootTellsSpec.pre6 enc Try.prog Try.f3 Rows.rootTellsRow.domain false) (Rows.rootTellsSpec.post enc Try.prog Try.f3 false true false false) := by
  refine returnsInHanded_of_change_sized (C := Try.checked) own started (by kernel_rfl) Try.func3
    (ChangeSpec.witness6 (enc := enc) (C := Try.checked) false ⟨#[], #[.agg #[.slice none 0 0, .slice none 0 0], .agg #[.int .i64 0, .int .i64 0, .int .i64 0], .int .i64 0], []⟩ 8 (by kernel_rfl) (by kernel_rfl) (by kernel_rfl) (by kernel_rfl)) ?_
  intro W base args ds gs before hval0 hW hcnd hsz0 _
  have hsz : (DataW.weightsEach Try.prog (Try.f3.params.toList ++ Rows.rootTellsSpec.plain.varTypes Try.prog) (ds ++ gs)).all (· ≤ reachBytes) = true := hsz0
  have hval : ∀ (j : Nat) t v, Try.f3.params[j]? = some t → args[j]? = some v → Value.okWide Try.prog W .any base t v := hval0
  have hW' := hW
  obtain ⟨p, q, hA0, hV, rfl, hfz, hnd⟩ := hW
  have hA : DataW.TrodAll enc Try.prog W 0 (fun _ => true) true Try.f3.params.toList args.toList ds p := hA0
  rw [Try.params3] at hA hval hsz
  obtain ⟨v0, vs0, d0, ds0, p0, q0, hargs, rfl, rfl, h0, r0⟩ := trodAll_cons hA
  obtain ⟨v1, vs1, d1, ds1, p1, q1, rfl, rfl, rfl, h1, r1⟩ := trodAll_cons r0
  obtain ⟨v2, vs2, d2, ds2, p2, q2, rfl, rfl, rfl, h2, r2⟩ := trodAll_cons r1
  obtain ⟨rfl, rfl, rfl⟩ := trodAll_nil r2
  obtain rfl : args = #[v0, v1, v2] := by cases args; simp_all
  obtain ⟨rfl, rfl⟩ := trodVars_none hV
  obtain ⟨cs0, x0, rfl, hk0, w0⟩ := Open.argZ_struct Try.underlying25 (hval 0 25 v0 rfl rfl) h0 opz25 (j := 0) hsz rfl rfl
  obtain ⟨A0_0, c0_0, A0_1, c0_1, rfl, hl0_0, hC0_0, hl0_1, hC0_1⟩ := F.k25_open hk0
  obtain ⟨cs1, x1, rfl, hk1, w1⟩ := Open.arg_struct Try.underlying27 (hval 1 27 v1 rfl rfl) h1 op27
  obtain rfl := F.k27_open hk1
  obtain ⟨a2, rfl, rfl, rfl, w2⟩ := open_int Try.underlying3 (hval 2 3 v2 rfl rfl) h2
  clear hA0 hval0 hsz0 hsz
  obtain ⟨k, hk⟩ := PlRootTells.pure x0.f0 x0.f1 x1.f0 x1.f1 x1.f2 a2 w0.1 w0.2 w1.1 w1.2.1 w1.2.2 w2
  refine (F.weirkeeperlaw07_RootTells.calls k A0_0 c0_0 x0.f0 A0_1 c0_1 x0.f1 x1.f0 x1.f1 x1.f2 a2 W hC0_0 hl0_0 hC0_1 hl0_1 hk).mono fun e W' ⟨he, bel⟩ => ?_
  subst he
  exact ⟨_, rfl, _, _, _, [], _, [], hW', trodAll_mk1 (shut_bool Try.underlying4 _), (trodAll_cons_mk (Open.trod_after laid (by kernel_rfl) (of_decide_eq_true (by kernel_rfl)) h0 bel) (trodAll_cons_mk (Open.trod_after laid (by kernel_rfl) (of_decide_eq_true (by kernel_rfl)) h1 bel) (trodAll_cons_mk (shut_int Try.underlying3 w2) trodAll_mk0))), rfl, bel.frame _, fun h => by cases h⟩
theorem over : Rows.rootTellsRow.holds Try.pinned (OpenSpec.ofChange Rows.rootTellsSpec) :=
  OpenClaim.holds_of_wide 3 Try.f3 rfl rfl rfl rfl rfl rfl rfl ⟨rfl, rfl, rfl, rfl, rfl⟩ rfl rfl rfl rfl rfl (by kernel_rfl) Try.func3 (by kernel_rfl)
    (of_decide_eq_true (by kernel_rfl)) (by unfold Func.isWrapper; first | (rw [if_pos (by decide +kernel)]; kernel_rfl) | (rw [if_neg (by decide +kernel)]; exact ⟨rfl, rfl⟩))
    (fun os started H enc _ => lifted os started H enc)
end Go.Proofs.Ythcohkgpbjcliaa.rootTells
namespace Go.Proofs.Ythcohkgpbjcliaa
theorem rootTells_holds : Rows.RootTellsSaid := rootTells.over
#print axioms rootTells_holds
end Go.Proofs.Ythcohkgpbjcliaa
