/- The bytes of any notes, pairs, changes, and any range, are what the document says, or refused. -/
import Derived.Test.YthidkdlmpkeogaaRows
import Derived.Test.YthidkdlmpkeogaaFlaw13FlatWrites
import Derived.Test.YthidkdlmpkeogaaPureFlatWrites
import Derived.Test.YthidkdlmpkeogaaOpen
import Derived.WalkKit
import Derived.ProofKit
import Derived.OpenShut
import Derived.ShutString
import Derived.ChangeOld
import Derived.Below
import Derived.SizedLaws
namespace Go.Proofs.Ythidkdlmpkeogaa.flatWrites
open Go.ChangeShapes Go.WideShapes Go.ChangeAt Go.RowKit
open Go.ChangeMaps (open_string shut_string)
open Go.Proofs.YthidkdlmpkeogaaW.PrintWords Go.Proofs.YthidkdlmpkeogaaW.PrintMore
set_option linter.unusedVariables false
theorem own : ownKnob Try.prog.godebug = none := by kernel_rfl
theorem laid : laidOutB Try.prog = true := by kernel_rfl
theorem op3 : Open.Opens Try.prog 3 (Kd.int .i64) (fun x => (Lit.int .i64 x).wf = true) := Open.opens_int Try.underlying3
theorem op9 : Open.Opens Try.prog 9 Kd.string (fun x => x.size ≤ maxLen) := Open.opens_string Try.underlying9
theorem op46 : Open.Opens Try.prog 46 (Kd.int .u64) (fun x => (Lit.int .u64 x).wf = true) := Open.opens_int Try.underlying46
theorem op48 : Open.Opens Try.prog 48 F.k48 (fun x => ((Lit.int .i64 x.f0).wf = true ∧ x.f1.size ≤ maxLen ∧ x.f2.size ≤ maxLen ∧ (Lit.int .u64 x.f3).wf = true)) := Open.opens_struct4 Try.underlying48 (by kernel_rfl) (by kernel_rfl) op3 op9 op9 op46 (fun x : F.S48 => (x.f0, x.f1, x.f2, x.f3)) (fun p => ⟨p.1, p.2.1, p.2.2.1, p.2.2.2⟩) (fun _ => rfl)
theorem op22 : Open.Opens Try.prog 22 (Kd.slice 48 F.k48) (fun x => ((∀ yy ∈ x, ((Lit.int .i64 yy.f0).wf = true ∧ yy.f1.size ≤ maxLen ∧ yy.f2.size ≤ maxLen ∧ (Lit.int .u64 yy.f3).wf = true)) ∧ x.length ≤ maxLen)) := Open.opens_slice Try.underlying22 (by kernel_rfl) op48
theorem op50 : Open.Opens Try.prog 50 F.k50 (fun x => (x.f0.size ≤ maxLen ∧ x.f1.size ≤ maxLen)) := Open.opens_struct2 Try.underlying50 (by kernel_rfl) (by kernel_rfl) op9 op9 (fun x : F.S50 => (x.f0, x.f1)) (fun p => ⟨p.1, p.2⟩) (fun _ => rfl)
theorem op23 : Open.Opens Try.prog 23 (Kd.slice 50 F.k50) (fun x => ((∀ yy ∈ x, (yy.f0.size ≤ maxLen ∧ yy.f1.size ≤ maxLen)) ∧ x.length ≤ maxLen)) := Open.opens_slice Try.underlying23 (by kernel_rfl) op50
theorem op4 : Open.Opens Try.prog 4 Kd.bool (fun x => True) := Open.opens_bool Try.underlying4
theorem op42 : Open.Opens Try.prog 42 F.k42 (fun x => ((Lit.int .i64 x.f0).wf = true ∧ x.f1.size ≤ maxLen ∧ True ∧ x.f3.size ≤ maxLen ∧ True ∧ x.f5.size ≤ maxLen)) := Open.opens_struct6 Try.underlying42 (by kernel_rfl) (by kernel_rfl) op3 op9 op4 op9 op4 op9 (fun x : F.S42 => (x.f0, x.f1, x.f2, x.f3, x.f4, x.f5)) (fun p => ⟨p.1, p.2.1, p.2.2.1, p.2.2.2.1, p.2.2.2.2.1, p.2.2.2.2.2⟩) (fun _ => rfl)
theorem op24 : Open.Opens Try.prog 24 (Kd.slice 42 F.k42) (fun x => ((∀ yy ∈ x, ((Lit.int .i64 yy.f0).wf = true ∧ yy.f1.size ≤ maxLen ∧ True ∧ yy.f3.size ≤ maxLen ∧ True ∧ yy.f5.size ≤ maxLen)) ∧ x.length ≤ maxLen)) := Open.opens_slice Try.underlying24 (by kernel_rfl) op42
theorem op26 : Open.Opens Try.prog 26 F.k26 (fun x => (x.f0.size ≤ maxLen ∧ x.f1.size ≤ maxLen ∧ True)) := Open.opens_struct3 Try.underlying26 (by kernel_rfl) (by kernel_rfl) op9 op9 op4 (fun x : F.S26 => (x.f0, x.f1, x.f2)) (fun p => ⟨p.1, p.2.1, p.2.2⟩) (fun _ => rfl)
set_option maxRecDepth 100000 in
theorem lifted (os : Os) (started : os.Started) (H : Type) (enc : TypeId × Value → H) :
    ReturnsInHanded {} Try.checked os 3 .any (Rows.flatWritesSpec.pre6 enc Try.prog Try.f3 Rows.flatWritesRow.domain false) (Rows.flatWritesSpec.post enc Try.prog Try.f3 false true false false) := by
  refine returnsInHanded_of_change_sized (C := Try.checked) own started (by kernel_rfl) Try.func3
    (ChangeSpec.witness6 (enc := enc) (C := Try.checked) false ⟨#[], #[.slice none 0 0, .slice none 0 0, .slice none 0 0, .agg #[.string ByteArray.empty, .string ByteArray.empty, .bool false]], []⟩ 8 (by kernel_rfl) (by kernel_rfl) (by kernel_rfl) (by kernel_rfl)) ?_
  intro W base args ds gs before hval0 hW hcnd hsz0 _
  have hsz : (DataW.weightsEach Try.prog (Try.f3.params.toList ++ Rows.flatWritesSpec.plain.varTypes Try.prog) (ds ++ gs)).all (· ≤ reachBytes) = true := hsz0
  have hval : ∀ (j : Nat) t v, Try.f3.params[j]? = some t → args[j]? = some v → Value.okWide Try.prog W .any base t v := hval0
  have hW' := hW
  obtain ⟨p, q, hA0, hV, rfl, hfz, hnd⟩ := hW
  have hA : DataW.TrodAll enc Try.prog W 0 (fun _ => true) true Try.f3.params.toList args.toList ds p := hA0
  rw [Try.params3] at hA hval hsz
  obtain ⟨v0, vs0, d0, ds0, p0, q0, hargs, rfl, rfl, h0, r0⟩ := trodAll_cons hA
  obtain ⟨v1, vs1, d1, ds1, p1, q1, rfl, rfl, rfl, h1, r1⟩ := trodAll_cons r0
  obtain ⟨v2, vs2, d2, ds2, p2, q2, rfl, rfl, rfl, h2, r2⟩ := trodAll_cons r1
  obtain ⟨v3, vs3, d3, ds3, p3, q3, rfl, rfl, rfl, h3, r3⟩ := trodAll_cons r2
  obtain ⟨rfl, rfl, rfl⟩ := trodAll_nil r3
  obtain rfl : args = #[v0, v1, v2, v3] := by cases args; simp_all
  obtain ⟨rfl, rfl⟩ := trodVars_none hV
  obtain ⟨A0, c0, l0, rfl, hl0, hC0, w0⟩ := Open.arg_slice Try.underlying22 (hval 0 22 v0 rfl rfl) h0 op22
  obtain ⟨A1, c1, l1, rfl, hl1, hC1, w1⟩ := Open.arg_slice Try.underlying23 (hval 1 23 v1 rfl rfl) h1 op23
  obtain ⟨A2, c2, l2, rfl, hl2, hC2, w2⟩ := Open.arg_slice Try.underlying24 (hval 2 24 v2 rfl rfl) h2 op24
  obtain ⟨cs3, x3, rfl, hk3, w3⟩ := Open.arg_struct Try.underlying26 (hval 3 26 v3 rfl rfl) h3 op26
  obtain rfl := F.k26_open hk3
  clear hA0 hval0 hsz0 hsz
  obtain ⟨k, hk⟩ := PlFlatWrites.pure l0 l1 l2 x3.f0 x3.f1 x3.f2 w0 w1 w2 w3.1 w3.2.1
  refine (F.weirkeeperlaw13_FlatWrites.calls k A0 c0 l0 A1 c1 l1 A2 c2 l2 x3.f0 x3.f1 x3.f2 W hC0 hl0 hC1 hl1 hC2 hl2 hk).mono fun e W' ⟨he, bel⟩ => ?_
  subst he
  exact ⟨_, rfl, _, _, _, [], _, [], hW', trodAll_mk1 (shut_bool Try.underlying4 _), (trodAll_cons_mk (Open.trod_after laid (by kernel_rfl) (of_decide_eq_true (by kernel_rfl)) h0 bel) (trodAll_cons_mk (Open.trod_after laid (by kernel_rfl) (of_decide_eq_true (by kernel_rfl)) h1 bel) (trodAll_cons_mk (Open.trod_after laid (by kernel_rfl) (of_decide_eq_true (by kernel_rfl)) h2 bel) (trodAll_cons_mk (Open.trod_after laid (by kernel_rfl) (of_decide_eq_true (by kernel_rfl)) h3 bel) trodAll_mk0)))), rfl, bel.frame _, fun h => by cases h⟩
theorem over : Rows.flatWritesRow.holds Try.pinned (OpenSpec.ofChange Rows.flatWritesSpec) :=
  OpenClaim.holds_of_wide 3 Try.f3 rfl rfl rfl rfl rfl rfl rfl ⟨rfl, rfl, rfl, rfl, rfl⟩ rfl rfl rfl rfl rfl (by kernel_rfl) Try.func3 (by kernel_rfl)
    (of_decide_eq_true (by kernel_rfl)) (by unfold Func.isWrapper; first | (rw [if_pos (by decide +kernel)]; kernel_rfl) | (rw [if_neg (by decide +kernel)]; exact ⟨rfl, rfl⟩))
    (fun os started H enc _ => lifted os started H enc)
end Go.Proofs.Ythidkdlmpkeogaa.flatWrites
namespace Go.Proofs.Ythidkdlmpkeogaa
/-- The row, under a short name, for the claim. -/
theorem flatWrites_holds : Rows.FlatWritesSaid := flatWrites.over
#print axioms flatWrites_holds
end Go.Proofs.Ythidkdlmpkeogaa
