/- The records of any disk, and any disk with some more, are what the document says, or refused. -/
import Derived.Test.YtpkapldkmleppaaRows
import Derived.Test.YtpkapldkmleppaaFlaw08JournalTells
import Derived.Test.YtpkapldkmleppaaPlAllJT
import Derived.Test.YtpkapldkmleppaaOpen
import Derived.Test.YtpkapldkmleppaaOpenZ
import Derived.WalkKit
import Derived.ProofKit
import Derived.OpenShut
import Derived.ShutString
import Derived.ChangeOld
import Derived.Below
import Derived.SizedLaws
namespace Go.Proofs.Ytpkapldkmleppaa.journalTells
open Go.ChangeShapes Go.WideShapes Go.ChangeAt Go.RowKit
open Go.ChangeMaps (open_string shut_string)
open Go.Proofs.YtpkapldkmleppaaW.PrintWords Go.Proofs.YtpkapldkmleppaaW.PrintMore
set_option linter.unusedVariables false
theorem own : ownKnob Try.prog.godebug = none := by kernel_rfl
theorem laid : laidOutB Try.prog = true := by kernel_rfl
theorem op9 : Open.Opens Try.prog 9 Kd.string (fun x => x.size ≤ maxLen) := Open.opens_string Try.underlying9
theorem op3 : Open.Opens Try.prog 3 (Kd.int .i64) (fun x => (Lit.int .i64 x).wf = true) := Open.opens_int Try.underlying3
theorem op76 : Open.Opens Try.prog 76 F.k76 (fun x => ((Lit.int .i64 x.f0).wf = true ∧ x.f1.size ≤ maxLen)) := Open.opens_struct2 Try.underlying76 (by kernel_rfl) (by kernel_rfl) op3 op9 (fun x : F.S76 => (x.f0, x.f1)) (fun p => ⟨p.1, p.2⟩) (fun _ => rfl)
theorem opz25 : Open.OpensZ Try.prog 25 F.k25 (fun x => ((((∀ yy ∈ x.f0, yy.size ≤ maxLen) ∧ x.f0.length ≤ maxLen) ∧ x.f0.length * 16 ≤ 140737488351232) ∧ (((∀ yy ∈ x.f1, ((Lit.int .i64 yy.f0).wf = true ∧ yy.f1.size ≤ maxLen)) ∧ x.f1.length ≤ maxLen) ∧ x.f1.length * 24 ≤ 140737488351232))) := Open.opensZ_struct2 Try.underlying25 (by kernel_rfl) (by kernel_rfl) (Open.opensZ_slice Try.underlying22 (by kernel_rfl) (by kernel_rfl) op9) (Open.opensZ_slice Try.underlying23 (by kernel_rfl) (by kernel_rfl) op76) (fun x : F.S25 => (x.f0, x.f1)) (fun p => ⟨p.1, p.2⟩) (fun _ => rfl)
theorem op22 : Open.Opens Try.prog 22 (Kd.slice 9 Kd.string) (fun x => ((∀ yy ∈ x, yy.size ≤ maxLen) ∧ x.length ≤ maxLen)) := Open.opens_slice Try.underlying22 (by kernel_rfl) op9
set_option maxRecDepth 100000 in
theorem lifted (os : Os) (started : os.Started) (H : Type) (enc : TypeId × Value → H) :
    ReturnsInHanded {} Try.checked os 9 .any (Rows.journalTellsSpec.pre6 enc Try.prog Try.f9 Rows.journalTellsRow.domain false) (Rows.journalTellsSpec.post enc Try.prog Try.f9 false true false false) := by
  refine returnsInHanded_of_change_sized (C := Try.checked) own started (by kernel_rfl) Try.func9
    (ChangeSpec.witness6 (enc := enc) (C := Try.checked) false ⟨#[], #[.agg #[.slice none 0 0, .slice none 0 0], .int .i64 0, .int .i64 0, .slice none 0 0], []⟩ 8 (by kernel_rfl) (by kernel_rfl) (by kernel_rfl) (by kernel_rfl)) ?_
  intro W base args ds gs before hval0 hW hcnd hsz0 _
  have hsz : (DataW.weightsEach Try.prog (Try.f9.params.toList ++ Rows.journalTellsSpec.plain.varTypes Try.prog) (ds ++ gs)).all (· ≤ reachBytes) = true := hsz0
  have hval : ∀ (j : Nat) t v, Try.f9.params[j]? = some t → args[j]? = some v → Value.okWide Try.prog W .any base t v := hval0
  have hW' := hW
  obtain ⟨p, q, hA0, hV, rfl, hfz, hnd⟩ := hW
  have hA : DataW.TrodAll enc Try.prog W 0 (fun _ => true) true Try.f9.params.toList args.toList ds p := hA0
  rw [Try.params9] at hA hval hsz
  obtain ⟨v0, vs0, d0, ds0, p0, q0, hargs, rfl, rfl, h0, r0⟩ := trodAll_cons hA
  obtain ⟨v1, vs1, d1, ds1, p1, q1, rfl, rfl, rfl, h1, r1⟩ := trodAll_cons r0
  obtain ⟨v2, vs2, d2, ds2, p2, q2, rfl, rfl, rfl, h2, r2⟩ := trodAll_cons r1
  obtain ⟨v3, vs3, d3, ds3, p3, q3, rfl, rfl, rfl, h3, r3⟩ := trodAll_cons r2
  obtain ⟨rfl, rfl, rfl⟩ := trodAll_nil r3
  obtain rfl : args = #[v0, v1, v2, v3] := by cases args; simp_all
  obtain ⟨rfl, rfl⟩ := trodVars_none hV
  obtain ⟨cs0, x0, rfl, hk0, w0⟩ := Open.argZ_struct Try.underlying25 (hval 0 25 v0 rfl rfl) h0 opz25 (j := 0) hsz rfl rfl
  obtain ⟨A0_0, c0_0, A0_1, c0_1, rfl, hl0_0, hC0_0, hl0_1, hC0_1⟩ := F.k25_open hk0
  obtain ⟨a1, rfl, rfl, rfl, w1⟩ := open_int Try.underlying3 (hval 1 3 v1 rfl rfl) h1
  obtain ⟨a2, rfl, rfl, rfl, w2⟩ := open_int Try.underlying3 (hval 2 3 v2 rfl rfl) h2
  obtain ⟨A3, c3, l3, rfl, hl3, hC3, w3⟩ := Open.arg_slice Try.underlying22 (hval 3 22 v3 rfl rfl) h3 op22
  clear hA0 hval0 hsz0 hsz
  obtain ⟨k, hk⟩ := PlJournalTells.pure x0.f0 x0.f1 a1 a2 l3 w0.1 w0.2 w1 w2 w3
  refine (F.weirkeeperlaw08_JournalTells.calls k A0_0 c0_0 x0.f0 A0_1 c0_1 x0.f1 a1 a2 A3 c3 l3 W hC0_0 hl0_0 hC0_1 hl0_1 hC3 hl3 hk).mono fun e W' ⟨he, bel⟩ => ?_
  subst he
  exact ⟨_, rfl, _, _, _, [], _, [], hW', trodAll_mk1 (shut_bool Try.underlying4 _), (trodAll_cons_mk (Open.trod_after laid (by kernel_rfl) (of_decide_eq_true (by kernel_rfl)) h0 bel) (trodAll_cons_mk (shut_int Try.underlying3 w1) (trodAll_cons_mk (shut_int Try.underlying3 w2) (trodAll_cons_mk (Open.trod_after laid (by kernel_rfl) (of_decide_eq_true (by kernel_rfl)) h3 bel) trodAll_mk0)))), rfl, bel.frame _, fun h => by cases h⟩
theorem over : Rows.journalTellsRow.holds Try.pinned (OpenSpec.ofChange Rows.journalTellsSpec) :=
  OpenClaim.holds_of_wide 9 Try.f9 rfl rfl rfl rfl rfl rfl rfl ⟨rfl, rfl, rfl, rfl, rfl⟩ rfl rfl rfl rfl rfl (by kernel_rfl) Try.func9 (by kernel_rfl)
    (of_decide_eq_true (by kernel_rfl)) (by unfold Func.isWrapper; first | (rw [if_pos (by decide +kernel)]; kernel_rfl) | (rw [if_neg (by decide +kernel)]; exact ⟨rfl, rfl⟩))
    (fun os started H enc _ => lifted os started H enc)
end Go.Proofs.Ytpkapldkmleppaa.journalTells
namespace Go.Proofs.Ytpkapldkmleppaa
/-- The row, under a short name, for the claim. -/
theorem journalTells_holds : Rows.JournalTellsSaid := journalTells.over
#print axioms journalTells_holds
end Go.Proofs.Ytpkapldkmleppaa
