/- Two notes as one do to any value what both do, one behind the other; so do three in either grouping; a note stays one. -/
import Derived.Test.YtgccimhdbphenaaRows
import Derived.Test.YtgccimhdbphenaaFlaw09NoteBoth
import Derived.Test.YtgccimhdbphenaaPureNoteBoth
import Derived.Test.YtgccimhdbphenaaOpen
import Derived.WalkKit
import Derived.ProofKit
import Derived.OpenShut
import Derived.ShutString
import Derived.ChangeOld
import Derived.Below
import Derived.SizedLaws
namespace Go.Proofs.Ytgccimhdbphenaa.noteBoth
open Go.ChangeShapes Go.WideShapes Go.ChangeAt Go.RowKit
open Go.ChangeMaps (open_string shut_string)
open Go.Proofs.YtgccimhdbphenaaW.PrintWords Go.Proofs.YtgccimhdbphenaaW.PrintMore
set_option linter.unusedVariables false
theorem own : ownKnob Try.prog.godebug = none := by kernel_rfl
theorem laid : laidOutB Try.prog = true := by kernel_rfl
theorem op3 : Open.Opens Try.prog 3 (Kd.int .i64) (fun x => (Lit.int .i64 x).wf = true) := Open.opens_int Try.underlying3
theorem op9 : Open.Opens Try.prog 9 Kd.string (fun x => x.size ≤ maxLen) := Open.opens_string Try.underlying9
theorem op22 : Open.Opens Try.prog 22 (Kd.int .u64) (fun x => (Lit.int .u64 x).wf = true) := Open.opens_int Try.underlying22
theorem op55 : Open.Opens Try.prog 55 F.k55 (fun x => ((Lit.int .i64 x.f0).wf = true ∧ x.f1.size ≤ maxLen ∧ x.f2.size ≤ maxLen ∧ (Lit.int .u64 x.f3).wf = true)) := Open.opens_struct4 Try.underlying55 (by kernel_rfl) (by kernel_rfl) op3 op9 op9 op22 (fun x : F.S55 => (x.f0, x.f1, x.f2, x.f3)) (fun p => ⟨p.1, p.2.1, p.2.2.1, p.2.2.2⟩) (fun _ => rfl)
set_option maxRecDepth 100000 in
theorem lifted (os : Os) (started : os.Started) (H : Type) (enc : TypeId × Value → H) :
    ReturnsInHanded {} Try.checked os 10 .any (Rows.noteBothSpec.pre6 enc Try.prog Try.f10 Rows.noteBothRow.domain false) (Rows.noteBothSpec.post enc Try.prog Try.f10 false true false false) := by
  refine returnsInHanded_of_change_sized (C := Try.checked) own started (by kernel_rfl) Try.func10
    (ChangeSpec.witness6 (enc := enc) (C := Try.checked) false ⟨#[], #[.string ByteArray.empty, .bool false, .agg #[.int .i64 0, .string ByteArray.empty, .string ByteArray.empty, .int .u64 0], .agg #[.int .i64 0, .string ByteArray.empty, .string ByteArray.empty, .int .u64 0], .agg #[.int .i64 0, .string ByteArray.empty, .string ByteArray.empty, .int .u64 0]], []⟩ 8 (by kernel_rfl) (by kernel_rfl) (by kernel_rfl) (by kernel_rfl)) ?_
  intro W base args ds gs before hval0 hW hcnd hsz0 _
  have hsz : (DataW.weightsEach Try.prog (Try.f10.params.toList ++ Rows.noteBothSpec.plain.varTypes Try.prog) (ds ++ gs)).all (· ≤ reachBytes) = true := hsz0
  have hval : ∀ (j : Nat) t v, Try.f10.params[j]? = some t → args[j]? = some v → Value.okWide Try.prog W .any base t v := hval0
  have hW' := hW
  obtain ⟨p, q, hA0, hV, rfl, hfz, hnd⟩ := hW
  have hA : DataW.TrodAll enc Try.prog W 0 (fun _ => true) true Try.f10.params.toList args.toList ds p := hA0
  rw [Try.params10] at hA hval hsz
  obtain ⟨v0, vs0, d0, ds0, p0, q0, hargs, rfl, rfl, h0, r0⟩ := trodAll_cons hA
  obtain ⟨v1, vs1, d1, ds1, p1, q1, rfl, rfl, rfl, h1, r1⟩ := trodAll_cons r0
  obtain ⟨v2, vs2, d2, ds2, p2, q2, rfl, rfl, rfl, h2, r2⟩ := trodAll_cons r1
  obtain ⟨v3, vs3, d3, ds3, p3, q3, rfl, rfl, rfl, h3, r3⟩ := trodAll_cons r2
  obtain ⟨v4, vs4, d4, ds4, p4, q4, rfl, rfl, rfl, h4, r4⟩ := trodAll_cons r3
  obtain ⟨rfl, rfl, rfl⟩ := trodAll_nil r4
  obtain rfl : args = #[v0, v1, v2, v3, v4] := by cases args; simp_all
  obtain ⟨rfl, rfl⟩ := trodVars_none hV
  obtain ⟨a0, rfl, rfl, rfl, y0⟩ := open_string Try.underlying9 (hval 0 9 v0 rfl rfl) h0
  have w0 : a0.size ≤ 140737488351232 := by
    have z := sized_string hsz (j := 0) (t := 9) rfl rfl
    rw [Array.length_toList] at z
    exact z
  obtain ⟨a1, rfl, rfl, rfl⟩ := open_bool Try.underlying4 (hval 1 4 v1 rfl rfl) h1
  obtain ⟨cs2, x2, rfl, hk2, w2⟩ := Open.arg_struct Try.underlying55 (hval 2 55 v2 rfl rfl) h2 op55
  obtain rfl := F.k55_open hk2
  obtain ⟨cs3, x3, rfl, hk3, w3⟩ := Open.arg_struct Try.underlying55 (hval 3 55 v3 rfl rfl) h3 op55
  obtain rfl := F.k55_open hk3
  obtain ⟨cs4, x4, rfl, hk4, w4⟩ := Open.arg_struct Try.underlying55 (hval 4 55 v4 rfl rfl) h4 op55
  obtain rfl := F.k55_open hk4
  clear hA0 hval0 hsz0 hsz
  obtain ⟨k, hk⟩ := PlNoteBoth.pure a0 a1 x2.f0 x2.f1 x2.f2 x2.f3 x3.f0 x3.f1 x3.f2 x3.f3 x4.f0 x4.f1 x4.f2 x4.f3 w0 w2.1 w2.2.1 w2.2.2.1 w2.2.2.2 w3.1 w3.2.1 w3.2.2.1 w3.2.2.2 w4.1 w4.2.1 w4.2.2.1 w4.2.2.2
  refine (F.weirkeeperlaw09_NoteBoth.calls k a0 a1 x2.f0 x2.f1 x2.f2 x2.f3 x3.f0 x3.f1 x3.f2 x3.f3 x4.f0 x4.f1 x4.f2 x4.f3 W  hk).mono fun e W' ⟨he, bel⟩ => ?_
  subst he
  exact ⟨_, rfl, _, _, _, [], _, [], hW', trodAll_mk1 (shut_bool Try.underlying4 _), (trodAll_cons_mk (shut_string Try.underlying9 y0) (trodAll_cons_mk (shut_bool Try.underlying4 _) (trodAll_cons_mk (Open.trod_after laid (by kernel_rfl) (of_decide_eq_true (by kernel_rfl)) h2 bel) (trodAll_cons_mk (Open.trod_after laid (by kernel_rfl) (of_decide_eq_true (by kernel_rfl)) h3 bel) (trodAll_cons_mk (Open.trod_after laid (by kernel_rfl) (of_decide_eq_true (by kernel_rfl)) h4 bel) trodAll_mk0))))), rfl, bel.frame _, fun h => by cases h⟩
theorem over : Rows.noteBothRow.holds Try.pinned (OpenSpec.ofChange Rows.noteBothSpec) :=
  OpenClaim.holds_of_wide 10 Try.f10 rfl rfl rfl rfl rfl rfl rfl ⟨rfl, rfl, rfl, rfl, rfl⟩ rfl rfl rfl rfl rfl (by kernel_rfl) Try.func10 (by kernel_rfl)
    (of_decide_eq_true (by kernel_rfl)) (by unfold Func.isWrapper; first | (rw [if_pos (by decide +kernel)]; kernel_rfl) | (rw [if_neg (by decide +kernel)]; exact ⟨rfl, rfl⟩))
    (fun os started H enc _ => lifted os started H enc)
end Go.Proofs.Ytgccimhdbphenaa.noteBoth
namespace Go.Proofs.Ytgccimhdbphenaa
/-- The row, under a short name, for the claim. -/
theorem noteBoth_holds : Rows.NoteBothSaid := noteBoth.over
#print axioms noteBoth_holds
end Go.Proofs.Ytgccimhdbphenaa
