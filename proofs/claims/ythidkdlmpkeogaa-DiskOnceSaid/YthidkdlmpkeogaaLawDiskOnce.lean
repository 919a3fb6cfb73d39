/- A disk that is flushed, or behind a crash, is the same when it is flushed, or behind a crash, again; what is put in two parts is put at once. -/
import Derived.Test.YthidkdlmpkeogaaRows
import Derived.Test.YthidkdlmpkeogaaFlaw04DiskOnce
import Derived.Test.YthidkdlmpkeogaaPureDiskOnce
import Derived.Test.YthidkdlmpkeogaaOpen
import Derived.Test.YthidkdlmpkeogaaOpenZ
import Derived.WalkKit
import Derived.ProofKit
import Derived.OpenShut
import Derived.ShutString
import Derived.ChangeOld
import Derived.Below
import Derived.SizedLaws
namespace Go.Proofs.Ythidkdlmpkeogaa.diskOnce
open Go.ChangeShapes Go.WideShapes Go.ChangeAt Go.RowKit
open Go.ChangeMaps (open_string shut_string)
open Go.Proofs.YthidkdlmpkeogaaW.PrintWords Go.Proofs.YthidkdlmpkeogaaW.PrintMore
set_option linter.unusedVariables false
theorem own : ownKnob Try.prog.godebug = none := by kernel_rfl
theorem laid : laidOutB Try.prog = true := by kernel_rfl
theorem op9 : Open.Opens Try.prog 9 Kd.string (fun x => x.size ≤ maxLen) := Open.opens_string Try.underlying9
theorem op3 : Open.Opens Try.prog 3 (Kd.int .i64) (fun x => (Lit.int .i64 x).wf = true) := Open.opens_int Try.underlying3
theorem op104 : Open.Opens Try.prog 104 F.k104 (fun x => ((Lit.int .i64 x.f0).wf = true ∧ x.f1.size ≤ maxLen)) := Open.opens_struct2 Try.underlying104 (by kernel_rfl) (by kernel_rfl) op3 op9 (fun x : F.S104 => (x.f0, x.f1)) (fun p => ⟨p.1, p.2⟩) (fun _ => rfl)
theorem opz86 : Open.OpensZ Try.prog 86 F.k86 (fun x => ((((∀ yy ∈ x.f0, yy.size ≤ maxLen) ∧ x.f0.length ≤ maxLen) ∧ x.f0.length * 16 ≤ 140737488351232) ∧ (((∀ yy ∈ x.f1, ((Lit.int .i64 yy.f0).wf = true ∧ yy.f1.size ≤ maxLen)) ∧ x.f1.length ≤ maxLen) ∧ x.f1.length * 24 ≤ 140737488351232))) := Open.opensZ_struct2 Try.underlying86 (by kernel_rfl) (by kernel_rfl) (Open.opensZ_slice Try.underlying83 (by kernel_rfl) (by kernel_rfl) op9) (Open.opensZ_slice Try.underlying84 (by kernel_rfl) (by kernel_rfl) op104) (fun x : F.S86 => (x.f0, x.f1)) (fun p => ⟨p.1, p.2⟩) (fun _ => rfl)
theorem op83 : Open.Opens Try.prog 83 (Kd.slice 9 Kd.string) (fun x => ((∀ yy ∈ x, yy.size ≤ maxLen) ∧ x.length ≤ maxLen)) := Open.opens_slice Try.underlying83 (by kernel_rfl) op9
theorem op4 : Open.Opens Try.prog 4 Kd.bool (fun x => True) := Open.opens_bool Try.underlying4
theorem op101 : Open.Opens Try.prog 101 (Kd.slice 4 Kd.bool) (fun x => ((∀ yy ∈ x, True) ∧ x.length ≤ maxLen)) := Open.opens_slice Try.underlying101 (by kernel_rfl) op4
set_option maxRecDepth 100000 in
theorem lifted (os : Os) (started : os.Started) (H : Type) (enc : TypeId × Value → H) :
    ReturnsInHanded {} Try.checked os 12 .any (Rows.diskOnceSpec.pre6 enc Try.prog Try.f12 Rows.diskOnceRow.domain false) (Rows.diskOnceSpec.post enc Try.prog Try.f12 false true false false) := by
  refine returnsInHanded_of_change_sized (C := Try.checked) own started (by kernel_rfl) Try.func12
    (ChangeSpec.witness6 (enc := enc) (C := Try.checked) false ⟨#[], #[.agg #[.slice none 0 0, .slice none 0 0], .int .i64 0, .slice none 0 0, .slice none 0 0, .slice none 0 0, .slice none 0 0], []⟩ 8 (by kernel_rfl) (by kernel_rfl) (by kernel_rfl) (by kernel_rfl)) ?_
  intro W base args ds gs before hval0 hW hcnd hsz0 _
  have hsz : (DataW.weightsEach Try.prog (Try.f12.params.toList ++ Rows.diskOnceSpec.plain.varTypes Try.prog) (ds ++ gs)).all (· ≤ reachBytes) = true := hsz0
  have hval : ∀ (j : Nat) t v, Try.f12.params[j]? = some t → args[j]? = some v → Value.okWide Try.prog W .any base t v := hval0
  have hW' := hW
  obtain ⟨p, q, hA0, hV, rfl, hfz, hnd⟩ := hW
  have hA : DataW.TrodAll enc Try.prog W 0 (fun _ => true) true Try.f12.params.toList args.toList ds p := hA0
  rw [Try.params12] at hA hval hsz
  obtain ⟨v0, vs0, d0, ds0, p0, q0, hargs, rfl, rfl, h0, r0⟩ := trodAll_cons hA
  obtain ⟨v1, vs1, d1, ds1, p1, q1, rfl, rfl, rfl, h1, r1⟩ := trodAll_cons r0
  obtain ⟨v2, vs2, d2, ds2, p2, q2, rfl, rfl, rfl, h2, r2⟩ := trodAll_cons r1
  obtain ⟨v3, vs3, d3, ds3, p3, q3, rfl, rfl, rfl, h3, r3⟩ := trodAll_cons r2
  obtain ⟨v4, vs4, d4, ds4, p4, q4, rfl, rfl, rfl, h4, r4⟩ := trodAll_cons r3
  obtain ⟨v5, vs5, d5, ds5, p5, q5, rfl, rfl, rfl, h5, r5⟩ := trodAll_cons r4
  obtain ⟨rfl, rfl, rfl⟩ := trodAll_nil r5
  obtain rfl : args = #[v0, v1, v2, v3, v4, v5] := by cases args; simp_all
  obtain ⟨rfl, rfl⟩ := trodVars_none hV
  obtain ⟨cs0, x0, rfl, hk0, w0⟩ := Open.argZ_struct Try.underlying86 (hval 0 86 v0 rfl rfl) h0 opz86 (j := 0) hsz rfl rfl
  obtain ⟨A0_0, c0_0, A0_1, c0_1, rfl, hl0_0, hC0_0, hl0_1, hC0_1⟩ := F.k86_open hk0
  obtain ⟨a1, rfl, rfl, rfl, w1⟩ := open_int Try.underlying3 (hval 1 3 v1 rfl rfl) h1
  obtain ⟨A2, c2, l2, rfl, hl2, hC2, w2⟩ := Open.arg_slice Try.underlying83 (hval 2 83 v2 rfl rfl) h2 op83
  obtain ⟨A3, c3, l3, rfl, hl3, hC3, w3⟩ := Open.arg_slice Try.underlying83 (hval 3 83 v3 rfl rfl) h3 op83
  obtain ⟨A4, c4, l4, rfl, hl4, hC4, w4⟩ := Open.arg_slice Try.underlying101 (hval 4 101 v4 rfl rfl) h4 op101
  obtain ⟨A5, c5, l5, rfl, hl5, hC5, w5⟩ := Open.arg_slice Try.underlying101 (hval 5 101 v5 rfl rfl) h5 op101
  clear hA0 hval0 hsz0 hsz
  obtain ⟨k, hk⟩ := PlDiskOnce.pure x0.f0 x0.f1 a1 l2 l3 l4 l5 w0.1 w0.2 w1 w2 w3 w4 w5
  refine (F.weirkeeperlaw04_DiskOnce.calls k A0_0 c0_0 x0.f0 A0_1 c0_1 x0.f1 a1 A2 c2 l2 A3 c3 l3 A4 c4 l4 A5 c5 l5 W hC0_0 hl0_0 hC0_1 hl0_1 hC2 hl2 hC3 hl3 hC4 hl4 hC5 hl5 hk).mono fun e W' ⟨he, bel⟩ => ?_
  subst he
  exact ⟨_, rfl, _, _, _, [], _, [], hW', trodAll_mk1 (shut_bool Try.underlying4 _), (trodAll_cons_mk (Open.trod_after laid (by kernel_rfl) (of_decide_eq_true (by kernel_rfl)) h0 bel) (trodAll_cons_mk (shut_int Try.underlying3 w1) (trodAll_cons_mk (Open.trod_after laid (by kernel_rfl) (of_decide_eq_true (by kernel_rfl)) h2 bel) (trodAll_cons_mk (Open.trod_after laid (by kernel_rfl) (of_decide_eq_true (by kernel_rfl)) h3 bel) (trodAll_cons_mk (Open.trod_after laid (by kernel_rfl) (of_decide_eq_true (by kernel_rfl)) h4 bel) (trodAll_cons_mk (Open.trod_after laid (by kernel_rfl) (of_decide_eq_true (by kernel_rfl)) h5 bel) trodAll_mk0)))))), rfl, bel.frame _, fun h => by cases h⟩
theorem over : Rows.diskOnceRow.holds Try.pinned (OpenSpec.ofChange Rows.diskOnceSpec) :=
  OpenClaim.holds_of_wide 12 Try.f12 rfl rfl rfl rfl rfl rfl rfl ⟨rfl, rfl, rfl, rfl, rfl⟩ rfl rfl rfl rfl rfl (by kernel_rfl) Try.func12 (by kernel_rfl)
    (of_decide_eq_true (by kernel_rfl)) (by unfold Func.isWrapper; first | (rw [if_pos (by decide +kernel)]; kernel_rfl) | (rw [if_neg (by decide +kernel)]; exact ⟨rfl, rfl⟩))
    (fun os started H enc _ => lifted os started H enc)
end Go.Proofs.Ythidkdlmpkeogaa.diskOnce
namespace Go.Proofs.Ythidkdlmpkeogaa
/-- The row, under a short name, for the claim. -/
theorem diskOnce_holds : Rows.DiskOnceSaid := diskOnce.over
#print axioms diskOnce_holds
end Go.Proofs.Ythidkdlmpkeogaa
