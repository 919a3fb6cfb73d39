/- Contracts of Go functions of the seat Ythidkdlmpkeogaa: what a call comes to; no condition but those that each theorem names. -/
import Derived.Test.YthidkdlmpkeogaaFPre
import Derived.WalkSpells
namespace Go.Proofs.Ythidkdlmpkeogaa.F
open Go.RowKit Go.Proofs.YthidkdlmpkeogaaW.PrintWords Go.Proofs.YthidkdlmpkeogaaW.PrintLast Go.Proofs.YthidkdlmpkeogaaW.PrintMore
attribute [local go_sem] max2_int min2_int max_two min_two max_three min_three max_four min_four   -- for this text's walks alone
set_option linter.unusedVariables false
set_option linter.unusedSimpArgs false

/-! ### slices_Clone_string_string: function 111 -/

def slices_Clone_string_string.f (l0 : List ByteArray) : Option (List ByteArray) := if l0.length < 8796093022208 then some l0 else none
set_option maxHeartbeats 8000000 in
set_option maxRecDepth 100000 in
theorem slices_Clone_string_string.calls (A0 : Option Addr) (c0 : Nat) (l0 : List ByteArray) (r : List ByteArray) (w : World) (hr0 : Kd.C Kd.string w A0 l0.length l0) (hc0 : l0.length ≤ c0) (h : slices_Clone_string_string.f l0 = some r) :
    Calls Try.prog 111 #[.slice A0 l0.length c0] w fun e w' => ∃ v : Value, e = .returned v ∧ Kd.R Kd.string 9 w' w.heap.size (fun _ => True) v r ∧ Below w.heap.size w w' := by
  have HR0 := Aside0.mk hr0
  clear hr0
  have HB := Aside0.mk (Below.refl w.heap.size w)
  unfold slices_Clone_string_string.f at h
  by_cases c : l0.length < 8796093022208
  · rw [if_pos c] at h
    obtain rfl := Option.some.inj h
    have LM := Aside0.mk c
    clear c h
    have q1 : ∀ (w : World) (a : Option Addr) (n c n' c' : Nat), (binOp .eql 83 (.slice a n c) (.slice none n' c')).run Try.prog w = .ok (.bool a.isNone) w := fun w a n c n' c' => Lib.run_eql_slice_nil w _ _ a n c n' c' Try.underlying83
    go_enter Try.func111, Try.ntmps111
    cases A0 with
    | none =>
      go_wp2_with fail
      go_ret
      refine ⟨_, rfl, ?_, HB.out⟩
      cases l0 with
      | nil => exact Kd.R_nil _ _ _ _ _
      | cons x l =>
        obtain ⟨_, _, h⟩ := HR0.out
        obtain ⟨ad, e, _⟩ := h (Nat.succ_pos _)
        cases e
    | some ad =>
      go_wp2_with (first
        | ((with_reducible refine gate_dst (N := 5) rfl ?_); (try (refine gate_guard (by rfl) ?_; dsimp only)); refine Kd.R_lit Kd.string (w0 := w) w.heap.size 9 ?hg (N := 5) ?hd (xs := ([] : List ByteArray)) (inner := []) (ok := fun _ => True) (okp := fun _ => True) ?hr ?hp (fun _ hk => hk) trivial (Below.refl _ _) (Nat.le_refl _) (by simp) ?_; (case hd => rfl); (case hg => rfl); (case hr => first | (go_simp; done) | (go_simp; rfl)); (case hp => exact Reps.none _ _); intro v1 w1 ho hb hg_ hnew_; clear hg_ hnew_; have HO := Aside0.mk ho; have HB1 := Aside0.mk hb; clear HB; have HB := HB1; clear HB1 ho hb)
        | ((with_reducible refine gate_builtin (b := .append) (xs := #[.tmp 5, .tmp 6]) rfl ?_); (try (refine gate_guard (by rfl) ?_; dsimp only)); at_builtin; refine Kd.R_append_rows Kd.string (w0 := w) w.heap.size rfl (.tmp 5) (.tmp 6) 83 9 (.string ⟨#[]⟩) 16 rfl Try.underlying83 info9 rfl (by decide) (by omega) v1 ([] : List ByteArray) l0 _ _ _ (fun _ => True) (fun _ => False) rfl rfl ?aO ?aR (fun _ _ h => h) (fun _ h => h.elim) ?aF ?aB ?aS ?aL ?_; (case aR => repeat (first | exact (Kd.C_below HR0.out HB.out) | (with_reducible refine Kd.C_alloc ?_ _) | (with_reducible refine Kd.C_drewN ?_ _) | (with_reducible refine Kd.C_drew ?_))); (case aB => exact (by repeat (first | (with_reducible first | exact HB.out | apply below_alloc | apply pw_below_drewN | apply below_drew1) | exact HB.out))); (case aF => exact (fun _ _ => trivial)); (case aO => exact (by (with_reducible repeat (first | apply Kd.R_alloc | apply Kd.R_drewN | apply Kd.R_drew)); exact HO.out)); (case aS => exact (below_size (by repeat (first | (with_reducible first | exact HB.out | apply below_alloc | apply pw_below_drewN | apply below_drew1) | exact HB.out)))); (case aL => have := LM.out; simp only [List.length_nil]; omega); intro v2 w2 ho hb hg hat; have HO2 := Aside0.mk ho; clear HB; have HB := Aside0.mk hb; clear HO ho hb hg hat))
      go_ret
      exact ⟨_, rfl, by simpa using HO2.out, (by repeat (first | (with_reducible first | exact HB.out | apply below_alloc | apply pw_below_drewN | apply below_drew1) | exact HB.out))⟩
  · rw [if_neg c] at h
    exact absurd h (by simp)


/-! ### slices_Clone_disk_Write_disk_Write: function 112 -/

theorem diskWrite_KM {w w1 : World} {base : Nat} {ok : Nat → Prop} {x : S104} {cs : List Value} (h : k104.K w x cs) : k104.M w1 base ok x cs := by
  obtain rfl := k104_open h
  exact k104_mkM _ _ _ _
def slices_Clone_disk_Write_disk_Write.f (l0 : List S104) : Option (List S104) := if l0.length < 5864062014805 then some l0 else none
set_option maxHeartbeats 8000000 in
set_option maxRecDepth 100000 in
theorem slices_Clone_disk_Write_disk_Write.calls (A0 : Option Addr) (c0 : Nat) (l0 : List S104) (r : List S104) (w : World) (hr0 : Kd.C k104 w A0 l0.length l0) (hc0 : l0.length ≤ c0) (h : slices_Clone_disk_Write_disk_Write.f l0 = some r) :
    Calls Try.prog 112 #[.slice A0 l0.length c0] w fun e w' => ∃ v : Value, e = .returned v ∧ Kd.R k104 104 w' w.heap.size (fun _ => True) v r ∧ Below w.heap.size w w' := by
  have HR0 := Aside0.mk hr0
  clear hr0
  have HB := Aside0.mk (Below.refl w.heap.size w)
  unfold slices_Clone_disk_Write_disk_Write.f at h
  by_cases c : l0.length < 5864062014805
  · rw [if_pos c] at h
    obtain rfl := Option.some.inj h
    have LM := Aside0.mk c
    clear c h
    have q1 : ∀ (w : World) (a : Option Addr) (n c n' c' : Nat), (binOp .eql 84 (.slice a n c) (.slice none n' c')).run Try.prog w = .ok (.bool a.isNone) w := fun w a n c n' c' => Lib.run_eql_slice_nil w _ _ a n c n' c' Try.underlying84
    go_enter Try.func112, Try.ntmps112
    cases A0 with
    | none =>
      go_wp2_with fail
      go_ret
      refine ⟨_, rfl, ?_, HB.out⟩
      cases l0 with
      | nil => exact Kd.R_nil _ _ _ _ _
      | cons x l =>
        obtain ⟨_, _, h⟩ := HR0.out
        obtain ⟨ad, e, _⟩ := h (Nat.succ_pos _)
        cases e
    | some ad =>
      go_wp2_with (first
        | ((with_reducible refine gate_dst (N := 5) rfl ?_); (try (refine gate_guard (by rfl) ?_; dsimp only)); refine Kd.R_lit k104 (w0 := w) w.heap.size 104 ?hg (N := 5) ?hd (xs := ([] : List S104)) (inner := []) (ok := fun _ => True) (okp := fun _ => True) ?hr ?hp (fun _ hk => hk) trivial (Below.refl _ _) (Nat.le_refl _) (by simp) ?_; (case hd => rfl); (case hg => rfl); (case hr => first | (go_simp; done) | (go_simp; rfl)); (case hp => exact Reps.none _ _); intro v1 w1 ho hb hg_ hnew_; clear hg_ hnew_; have HO := Aside0.mk ho; have HB1 := Aside0.mk hb; clear HB; have HB := HB1; clear HB1 ho hb)
        | ((with_reducible refine gate_builtin (b := .append) (xs := #[.tmp 5, .tmp 6]) rfl ?_); (try (refine gate_guard (by rfl) ?_; dsimp only)); at_builtin; refine Kd.R_append_rows k104 (w0 := w) w.heap.size rfl (.tmp 5) (.tmp 6) 84 104 (.agg #[.int .i64 0, .string ⟨#[]⟩]) 24 rfl Try.underlying84 info104 rfl (by decide) (by omega) v1 ([] : List S104) l0 _ _ _ (fun _ => True) (fun _ => False) rfl rfl ?aO ?aR (fun x cs (h : k104.K w1 x cs) => diskWrite_KM h) (fun _ h => h.elim) ?aF ?aB ?aS ?aL ?_; (case aR => repeat (first | exact (Kd.C_below HR0.out HB.out) | (with_reducible refine Kd.C_alloc ?_ _) | (with_reducible refine Kd.C_drewN ?_ _) | (with_reducible refine Kd.C_drew ?_))); (case aB => exact (by repeat (first | (with_reducible first | exact HB.out | apply below_alloc | apply pw_below_drewN | apply below_drew1) | exact HB.out))); (case aF => exact (fun _ _ => trivial)); (case aO => exact (by (with_reducible repeat (first | apply Kd.R_alloc | apply Kd.R_drewN | apply Kd.R_drew)); exact HO.out)); (case aS => exact (below_size (by repeat (first | (with_reducible first | exact HB.out | apply below_alloc | apply pw_below_drewN | apply below_drew1) | exact HB.out)))); (case aL => have := LM.out; simp only [List.length_nil]; omega); intro v2 w2 ho hb hg hat; have HO2 := Aside0.mk ho; clear HB; have HB := Aside0.mk hb; clear HO ho hb hg hat))
      go_ret
      exact ⟨_, rfl, by simpa using HO2.out, (by repeat (first | (with_reducible first | exact HB.out | apply below_alloc | apply pw_below_drewN | apply below_drew1) | exact HB.out))⟩
  · rw [if_neg c] at h
    exact absurd h (by simp)


end Go.Proofs.Ythidkdlmpkeogaa.F
