/- Contracts of Go functions of the seat Ythidkdlmpkeogaa: what a call comes to; no condition but those that each theorem names. -/
import Derived.Test.YthidkdlmpkeogaaFPre
import Derived.Test.YthidkdlmpkeogaaFLem
import Derived.Deep.LoopGhost
import Derived.Test.YthidkdlmpkeogaaFdiskC
import Derived.Test.YthidkdlmpkeogaaFdiskD
import Derived.Test.YthidkdlmpkeogaaFdiskB
import Derived.Test.YthidkdlmpkeogaaFdiskA
import Derived.Test.YthidkdlmpkeogaaFgslicesContainsFuncstringstring
namespace Go.Proofs.Ythidkdlmpkeogaa.F
open Go.RowKit Go.Proofs.YthidkdlmpkeogaaW.PrintWords Go.Proofs.YthidkdlmpkeogaaW.PrintLast Go.Proofs.YthidkdlmpkeogaaW.PrintMore
attribute [local go_sem] max2_int min2_int max_two min_two max_three min_three max_four min_four   -- for this text's walks alone
set_option linter.unusedVariables false
set_option linter.unusedSimpArgs false

/-! ### disk_Put: function 48 -/

-- uses disk_Read.calls and disk_Flush.calls: their words
def putW : Int → List ByteArray → List S104
  | _, [] => []
  | a, s :: l => ⟨a, s⟩ :: putW (a + 1) l
theorem putW_snoc : ∀ (l : List ByteArray) (a : Int) (s : ByteArray), putW a (l ++ [s]) = putW a l ++ [⟨a + l.length, s⟩]
  | [], a, s => by simp [putW]
  | x :: l, a, s => by
    rw [List.cons_append, putW, putW_snoc l, putW, List.cons_append, List.length_cons]
    congr 4
    omega
theorem putW_length : ∀ (l : List ByteArray) (a : Int), (putW a l).length = l.length
  | [], _ => rfl
  | _ :: l, a => by rw [putW, List.length_cons, putW_length l, List.length_cons]
def disk_Put.f (l0 : List ByteArray) (l1 : List S104) (a1 : Int) (l2 : List ByteArray) : Option (List ByteArray × List S104 × Int) :=
  if disk_fit l0 l1 = true then (if (disk_right l0 l1 && thereB l0.length a1 (l2.length : Int) && !(l2.any fun s => s.size != 32)) = true then some (l0, l1 ++ putW a1 l2, 0) else some (l0, l1, 1)) else none
theorem LastW.app {w wr w1 : World} {B2 : Nat} {d0 d1 v0 v1 v2 : Value} {S : List ByteArray} {W W' : List S104} (h : LastW w wr B2 d0 d1 v0 v1 S W) (hv : Kd.R k104 104 w1 w.heap.size (fun _ => True) v2 W') (hb : Below w.heap.size w w1) (hg : wr.grownBy w1 v1.ownBlock) : LastW w (w1.setCell ⟨B2, 1, none⟩ v2) B2 d0 d1 v0 v2 S W' := by
  have b1 := blk_grown h.bd hg (Kd.R_ne h.r1 h.bd (by decide))
  have b2 := blk_grown h.br hg (Kd.R_ne h.r1 h.br (by decide))
  have b3 := blk_grown h.bo hg (Kd.R_ne h.r1 h.bo (by decide))
  have h0 := Kd.R_over h.r0 h.r1 (by decide) hg
  have := h.gt
  exact ⟨h.gt, blk_far b1 (by simp only; omega) _, blk_far b2 (by simp only; omega) _, blk_put b3 1 _ rfl, Kd.R_set h0 b3 (by decide) 1 _, Kd.R_set hv b3 (by decide) 1 _, Below.setCell hb (by simp only; omega) _⟩
set_option maxHeartbeats 8000000 in
set_option maxRecDepth 100000 in
theorem disk_Put.calls (A0 : Option Addr) (c0 : Nat) (l0 : List ByteArray) (A1 : Option Addr) (c1 : Nat) (l1 : List S104) (a1 : Int) (A2 : Option Addr) (c2 : Nat) (l2 : List ByteArray) (r1 : List ByteArray) (r2 : List S104) (r3 : Int) (w : World)
    (hr0 : Kd.C Kd.string w A0 l0.length l0) (hc0 : l0.length ≤ c0) (hr1 : Kd.C k104 w A1 l1.length l1) (hc1 : l1.length ≤ c1) (hr2 : Kd.C Kd.string w A2 l2.length l2) (hc2 : l2.length ≤ c2) (h : disk_Put.f l0 l1 a1 l2 = some (r1, r2, r3)) :
    Calls Try.prog 48 #[.agg #[.slice A0 l0.length c0, .slice A1 l1.length c1], .int .i64 a1, .slice A2 l2.length c2] w fun e w' => ∃ v0 v1 : Value, e = .returned (.tuple #[.agg #[v0, v1], .int .i64 r3]) ∧ Kd.R Kd.string 9 w' w.heap.size (fun _ => True) v0 r1 ∧ Kd.R k104 104 w' w.heap.size (fun _ => True) v1 r2 ∧ Below w.heap.size w w' := by
  unfold disk_Put.f at h
  by_cases hf : disk_fit l0 l1 = true
  · rw [if_pos hf] at h
    have HOWN := Aside0.mk (own_is l0 l1 hf)
    have HF := Aside0.mk hf
    have HT0 := Aside0.mk (there_is l0 l1 a1 (l2.length : Int) (Kd.C_max hr0))
    have HR0 := Aside0.mk hr0
    have HC0 := Aside0.mk hc0
    have HR1 := Aside0.mk hr1
    have HC1 := Aside0.mk hc1
    have HR2 := Aside0.mk hr2
    have HC2 := Aside0.mk hc2
    clear hf hr0 hc0 hr1 hc1 hr2 hc2
    cases hb : disk_right l0 l1 with
    | false =>
      have HRT : Aside0 (disk_Right.f l0 l1 = some false) := ⟨congrArg some hb⟩
      rw [hb, Bool.false_and, Bool.false_and, if_neg (by decide)] at h
      simp only [Option.some.injEq, Prod.mk.injEq] at h
      obtain ⟨rfl, rfl, rfl⟩ := h
      clear hb
      go_enter Try.func48, Try.ntmps48
      go_wp2_with (first
        | (go_at_call 91; (with_reducible refine (disk_own.calls _ c0 l0 _ c1 l1 l0 l1 _ ?s1 HC0.out ?s2 HC1.out HOWN.out).mono ?_); (case s1 => exact Kd.C_alloc (Kd.C_alloc HR0.out _) _); (case s2 => exact Kd.C_alloc (Kd.C_alloc HR1.out _) _); rintro e w5 ⟨v0, v1, rfl, hv0, hv1, hb⟩; obtain ⟨p0, q0, rfl⟩ := Kd.R_slice hv0; obtain ⟨p1, q1, rfl⟩ := Kd.R_slice hv1; have HL := Aside0.mk (LastW.start hb hv0 hv1); (have f0 : (w5.alloc (.cells #[.slice p0 l0.length q0, .slice p1 l1.length q1] 86)).cell? ⟨w.heap.size, 0, none⟩ = some (.slice A0 l0.length c0) := (blk_cell HL.out.bd 0).trans rfl); (have f1 : (w5.alloc (.cells #[.slice p0 l0.length q0, .slice p1 l1.length q1] 86)).cell? ⟨w.heap.size, 1, none⟩ = some (.slice A1 l1.length c1) := (blk_cell HL.out.bd 1).trans rfl); clear hv0 hv1 hb)
        | (go_at_call 45; (with_reducible refine (disk_Right.calls _ c0 l0 _ c1 l1 false _ ?s1 HC0.out ?s2 HC1.out HRT.out).mono ?_); (case s1 => exact Kd.C_below HR0.out HL.out.hb); (case s2 => exact Kd.C_below HR1.out HL.out.hb); rintro e w6 ⟨rfl, hb⟩; have HM := Aside0.mk (HL.out.below hb); (have d0 : w6.cell? ⟨w.heap.size, 0, none⟩ = some (.slice A0 l0.length c0) := (blk_cell HM.out.bd 0).trans rfl); (have d1 : w6.cell? ⟨w.heap.size, 1, none⟩ = some (.slice A1 l1.length c1) := (blk_cell HM.out.bd 1).trans rfl); (have x0 : w6.cell? ⟨w5.heap.size, 0, none⟩ = some (.slice p0 l0.length q0) := (blk_cell HM.out.bo 0).trans rfl); (have x1 : w6.cell? ⟨w5.heap.size, 1, none⟩ = some (.slice p1 l1.length q1) := (blk_cell HM.out.bo 1).trans rfl); (have y0 : w6.cell? ⟨w.heap.size + 1, 0, none⟩ = some (.slice none 0 0) := (blk_cell HM.out.br 0).trans rfl); (have y1 : w6.cell? ⟨w.heap.size + 1, 1, none⟩ = some (.slice none 0 0) := (blk_cell HM.out.br 1).trans rfl); have z0 := blk_frozen HM.out.br 0; have z1 := blk_frozen HM.out.br 1; clear hb HL f0 f1))
      have M := HM.out
      refine bodyPost_ret (results_ct rfl _ _ (w.heap.size + 1) 86 #[.slice p0 l0.length q0, .slice p1 l1.length q1] (0, 0) _ rfl (blk_put (blk_put M.br 0 _ rfl) 1 _ rfl) Try.underlying86 rfl (by kernel_rfl)) rfl ⟨_, _, rfl, ?_, ?_, ?_⟩
      · exact Kd.R_set (Kd.R_set M.r0 M.br (by decide) 0 _) (blk_put M.br 0 _ rfl) (by decide) 1 _
      · exact Kd.R_set (Kd.R_set M.r1 M.br (by decide) 0 _) (blk_put M.br 0 _ rfl) (by decide) 1 _
      · exact Below.setCell (Below.setCell M.hb (by simp) _) (by simp) _
    | true =>
      have HRT : Aside0 (disk_Right.f l0 l1 = some true) := ⟨congrArg some hb⟩
      have HN0 : Aside0 (l0.length ≤ 512) := ⟨(right_32 hb).1⟩
      rw [hb, Bool.true_and] at h
      clear hb
      cases ht : thereB l0.length a1 (l2.length : Int) with
      | false =>
        rw [ht, Bool.false_and, if_neg (by decide)] at h
        simp only [Option.some.injEq, Prod.mk.injEq] at h
        obtain ⟨rfl, rfl, rfl⟩ := h
        have HT : Aside0 (disk_there.f l0 l1 a1 (l2.length : Int) = some false) := ⟨HT0.out.trans (congrArg some ht)⟩
        clear ht HT0
        go_enter Try.func48, Try.ntmps48
        go_wp2_with (first
          | (go_at_call 91; (with_reducible refine (disk_own.calls _ c0 l0 _ c1 l1 l0 l1 _ ?s1 HC0.out ?s2 HC1.out HOWN.out).mono ?_); (case s1 => exact Kd.C_alloc (Kd.C_alloc HR0.out _) _); (case s2 => exact Kd.C_alloc (Kd.C_alloc HR1.out _) _); rintro e w5 ⟨v0, v1, rfl, hv0, hv1, hb⟩; obtain ⟨p0, q0, rfl⟩ := Kd.R_slice hv0; obtain ⟨p1, q1, rfl⟩ := Kd.R_slice hv1; have HL := Aside0.mk (LastW.start hb hv0 hv1); (have f0 : (w5.alloc (.cells #[.slice p0 l0.length q0, .slice p1 l1.length q1] 86)).cell? ⟨w.heap.size, 0, none⟩ = some (.slice A0 l0.length c0) := (blk_cell HL.out.bd 0).trans rfl); (have f1 : (w5.alloc (.cells #[.slice p0 l0.length q0, .slice p1 l1.length q1] 86)).cell? ⟨w.heap.size, 1, none⟩ = some (.slice A1 l1.length c1) := (blk_cell HL.out.bd 1).trans rfl); clear hv0 hv1 hb)
          | (go_at_call 45; (with_reducible refine (disk_Right.calls _ c0 l0 _ c1 l1 true _ ?s1 HC0.out ?s2 HC1.out HRT.out).mono ?_); (case s1 => exact Kd.C_below HR0.out HL.out.hb); (case s2 => exact Kd.C_below HR1.out HL.out.hb); rintro e w6 ⟨rfl, hb⟩; have HM := Aside0.mk (HL.out.below hb); (have d0 : w6.cell? ⟨w.heap.size, 0, none⟩ = some (.slice A0 l0.length c0) := (blk_cell HM.out.bd 0).trans rfl); (have d1 : w6.cell? ⟨w.heap.size, 1, none⟩ = some (.slice A1 l1.length c1) := (blk_cell HM.out.bd 1).trans rfl); clear hb HL f0 f1)
          | (go_at_call 85; (with_reducible refine (disk_there.calls _ c0 l0 _ c1 l1 a1 (l2.length : Int) false _ ?s1 HC0.out ?s2 HC1.out HT.out).mono ?_); (case s1 => exact Kd.C_below HR0.out HM.out.hb); (case s2 => exact Kd.C_below HR1.out HM.out.hb); rintro e w7 ⟨rfl, hb⟩; have HM1 := Aside0.mk (HM.out.below hb); clear HM d0 d1; have HM := HM1; clear HM1; (have x0 : w7.cell? ⟨w5.heap.size, 0, none⟩ = some (.slice p0 l0.length q0) := (blk_cell HM.out.bo 0).trans rfl); (have x1 : w7.cell? ⟨w5.heap.size, 1, none⟩ = some (.slice p1 l1.length q1) := (blk_cell HM.out.bo 1).trans rfl); (have y0 : w7.cell? ⟨w.heap.size + 1, 0, none⟩ = some (.slice none 0 0) := (blk_cell HM.out.br 0).trans rfl); (have y1 : w7.cell? ⟨w.heap.size + 1, 1, none⟩ = some (.slice none 0 0) := (blk_cell HM.out.br 1).trans rfl); have z0 := blk_frozen HM.out.br 0; have z1 := blk_frozen HM.out.br 1; clear hb))
        have M := HM.out
        refine bodyPost_ret (results_ct rfl _ _ (w.heap.size + 1) 86 #[.slice p0 l0.length q0, .slice p1 l1.length q1] (0, 0) _ rfl (blk_put (blk_put M.br 0 _ rfl) 1 _ rfl) Try.underlying86 rfl (by kernel_rfl)) rfl ⟨_, _, rfl, ?_, ?_, ?_⟩
        · exact Kd.R_set (Kd.R_set M.r0 M.br (by decide) 0 _) (blk_put M.br 0 _ rfl) (by decide) 1 _
        · exact Kd.R_set (Kd.R_set M.r1 M.br (by decide) 0 _) (blk_put M.br 0 _ rfl) (by decide) 1 _
        · exact Below.setCell (Below.setCell M.hb (by simp) _) (by simp) _
      | true =>
        rw [ht, Bool.true_and] at h
        have HT : Aside0 (disk_there.f l0 l1 a1 (l2.length : Int) = some true) := ⟨HT0.out.trans (congrArg some ht)⟩
        simp only [thereB, Bool.and_eq_true, decide_eq_true_eq] at ht
        have HN : Aside0 (l2.length ≤ 512 ∧ 0 ≤ a1 ∧ a1 ≤ 512) := ⟨by have := HN0.out; omega⟩
        clear ht HT0
        cases hc : (l2.any fun s => s.size != 32) with
        | true =>
          rw [hc, Bool.not_true, if_neg (by decide)] at h
          simp only [Option.some.injEq, Prod.mk.injEq] at h
          obtain ⟨rfl, rfl, rfl⟩ := h
          have HCT := Aside0.mk (contains_is l2 true hc)
          clear hc
          go_enter Try.func48, Try.ntmps48
          go_wp2_with (first
            | (go_at_call 91; (with_reducible refine (disk_own.calls _ c0 l0 _ c1 l1 l0 l1 _ ?s1 HC0.out ?s2 HC1.out HOWN.out).mono ?_); (case s1 => exact Kd.C_alloc (Kd.C_alloc HR0.out _) _); (case s2 => exact Kd.C_alloc (Kd.C_alloc HR1.out _) _); rintro e w5 ⟨v0, v1, rfl, hv0, hv1, hb⟩; obtain ⟨p0, q0, rfl⟩ := Kd.R_slice hv0; obtain ⟨p1, q1, rfl⟩ := Kd.R_slice hv1; have HL := Aside0.mk (LastW.start hb hv0 hv1); (have f0 : (w5.alloc (.cells #[.slice p0 l0.length q0, .slice p1 l1.length q1] 86)).cell? ⟨w.heap.size, 0, none⟩ = some (.slice A0 l0.length c0) := (blk_cell HL.out.bd 0).trans rfl); (have f1 : (w5.alloc (.cells #[.slice p0 l0.length q0, .slice p1 l1.length q1] 86)).cell? ⟨w.heap.size, 1, none⟩ = some (.slice A1 l1.length c1) := (blk_cell HL.out.bd 1).trans rfl); clear hv0 hv1 hb)
            | (go_at_call 45; (with_reducible refine (disk_Right.calls _ c0 l0 _ c1 l1 true _ ?s1 HC0.out ?s2 HC1.out HRT.out).mono ?_); (case s1 => exact Kd.C_below HR0.out HL.out.hb); (case s2 => exact Kd.C_below HR1.out HL.out.hb); rintro e w6 ⟨rfl, hb⟩; have HM := Aside0.mk (HL.out.below hb); (have d0 : w6.cell? ⟨w.heap.size, 0, none⟩ = some (.slice A0 l0.length c0) := (blk_cell HM.out.bd 0).trans rfl); (have d1 : w6.cell? ⟨w.heap.size, 1, none⟩ = some (.slice A1 l1.length c1) := (blk_cell HM.out.bd 1).trans rfl); clear hb HL f0 f1)
            | (go_at_call 85; (with_reducible refine (disk_there.calls _ c0 l0 _ c1 l1 a1 (l2.length : Int) true _ ?s1 HC0.out ?s2 HC1.out HT.out).mono ?_); (case s1 => exact Kd.C_below HR0.out HM.out.hb); (case s2 => exact Kd.C_below HR1.out HM.out.hb); rintro e w7 ⟨rfl, hb⟩; have HM1 := Aside0.mk (HM.out.below hb); clear HM d0 d1; have HM := HM1; clear HM1; clear hb)
            | (go_at_call 87; (with_reducible refine (slices_ContainsFunc_string_string.calls _ c2 l2 true _ ?s1 HC2.out HCT.out).mono ?_); (case s1 => exact Kd.C_below HR2.out HM.out.hb); rintro e w8 ⟨rfl, ⟨nd, rfl⟩⟩; have HM1 := Aside0.mk (HM.out.below (pw_below_drewN (Below.refl _ _) nd)); clear HM; have HM := HM1; clear HM1; (have x0 : (w7.drewN nd).cell? ⟨w5.heap.size, 0, none⟩ = some (.slice p0 l0.length q0) := (blk_cell HM.out.bo 0).trans rfl); (have x1 : (w7.drewN nd).cell? ⟨w5.heap.size, 1, none⟩ = some (.slice p1 l1.length q1) := (blk_cell HM.out.bo 1).trans rfl); (have y0 : (w7.drewN nd).cell? ⟨w.heap.size + 1, 0, none⟩ = some (.slice none 0 0) := (blk_cell HM.out.br 0).trans rfl); (have y1 : (w7.drewN nd).cell? ⟨w.heap.size + 1, 1, none⟩ = some (.slice none 0 0) := (blk_cell HM.out.br 1).trans rfl); have z0 := blk_frozen HM.out.br 0; have z1 := blk_frozen HM.out.br 1; (have tok := True.intro)))
          have M := HM.out
          refine bodyPost_ret (results_ct rfl _ _ (w.heap.size + 1) 86 #[.slice p0 l0.length q0, .slice p1 l1.length q1] (0, 0) _ rfl (blk_put (blk_put M.br 0 _ rfl) 1 _ rfl) Try.underlying86 rfl (by kernel_rfl)) rfl ⟨_, _, rfl, ?_, ?_, ?_⟩
          · exact Kd.R_set (Kd.R_set M.r0 M.br (by decide) 0 _) (blk_put M.br 0 _ rfl) (by decide) 1 _
          · exact Kd.R_set (Kd.R_set M.r1 M.br (by decide) 0 _) (blk_put M.br 0 _ rfl) (by decide) 1 _
          · exact Below.setCell (Below.setCell M.hb (by simp) _) (by simp) _
        | false =>
          rw [hc, Bool.not_false, if_pos rfl] at h
          simp only [Option.some.injEq, Prod.mk.injEq] at h
          obtain ⟨rfl, rfl, rfl⟩ := h
          have HCT := Aside0.mk (contains_is l2 false hc)
          have hn2 : (l2.length : Int) ≤ 512 := by have := HN.out; omega
          have HFI : Aside0 (l1.length < 5864062000000) := ⟨by have := HF.out; simp only [disk_fit, Bool.and_eq_true, decide_eq_true_eq] at this; exact this.2⟩
          clear hc
          go_enter Try.func48, Try.ntmps48
          go_wp2_with (first
            | (go_at_call 91; (with_reducible refine (disk_own.calls _ c0 l0 _ c1 l1 l0 l1 _ ?s1 HC0.out ?s2 HC1.out HOWN.out).mono ?_); (case s1 => exact Kd.C_alloc (Kd.C_alloc HR0.out _) _); (case s2 => exact Kd.C_alloc (Kd.C_alloc HR1.out _) _); rintro e w5 ⟨v0, v1, rfl, hv0, hv1, hb⟩; obtain ⟨p0, q0, rfl⟩ := Kd.R_slice hv0; obtain ⟨p1, q1, rfl⟩ := Kd.R_slice hv1; have HL := Aside0.mk (LastW.start hb hv0 hv1); (have f0 : (w5.alloc (.cells #[.slice p0 l0.length q0, .slice p1 l1.length q1] 86)).cell? ⟨w.heap.size, 0, none⟩ = some (.slice A0 l0.length c0) := (blk_cell HL.out.bd 0).trans rfl); (have f1 : (w5.alloc (.cells #[.slice p0 l0.length q0, .slice p1 l1.length q1] 86)).cell? ⟨w.heap.size, 1, none⟩ = some (.slice A1 l1.length c1) := (blk_cell HL.out.bd 1).trans rfl); clear hv0 hv1 hb)
            | (go_at_call 45; (with_reducible refine (disk_Right.calls _ c0 l0 _ c1 l1 true _ ?s1 HC0.out ?s2 HC1.out HRT.out).mono ?_); (case s1 => exact Kd.C_below HR0.out HL.out.hb); (case s2 => exact Kd.C_below HR1.out HL.out.hb); rintro e w6 ⟨rfl, hb⟩; have HM := Aside0.mk (HL.out.below hb); (have d0 : w6.cell? ⟨w.heap.size, 0, none⟩ = some (.slice A0 l0.length c0) := (blk_cell HM.out.bd 0).trans rfl); (have d1 : w6.cell? ⟨w.heap.size, 1, none⟩ = some (.slice A1 l1.length c1) := (blk_cell HM.out.bd 1).trans rfl); clear hb HL f0 f1)
            | (go_at_call 85; (with_reducible refine (disk_there.calls _ c0 l0 _ c1 l1 a1 (l2.length : Int) true _ ?s1 HC0.out ?s2 HC1.out HT.out).mono ?_); (case s1 => exact Kd.C_below HR0.out HM.out.hb); (case s2 => exact Kd.C_below HR1.out HM.out.hb); rintro e w7 ⟨rfl, hb⟩; have HM1 := Aside0.mk (HM.out.below hb); clear HM d0 d1; have HM := HM1; clear HM1; clear hb)
            | (go_at_call 87; (with_reducible refine (slices_ContainsFunc_string_string.calls _ c2 l2 false _ ?s1 HC2.out HCT.out).mono ?_); (case s1 => exact Kd.C_below HR2.out HM.out.hb); rintro e w8 ⟨rfl, ⟨nd, rfl⟩⟩; have HM1 := Aside0.mk (HM.out.below (pw_below_drewN (Below.refl _ _) nd)); clear HM; have HM := HM1; clear HM1; (have tok := True.intro)))
          clear tok
          generalize w7.drewN nd = w8 at HM ⊢
          generalize w5.heap.size = B2 at HM ⊢
          go_loopg [31] l2.length (fun gg v31 wr => ∃ (i : Int) (v1 : Value) (W : List S104), v31 = .int .i64 i ∧ Aside0 (0 ≤ i ∧ i ≤ l2.length ∧ l2.length - i.toNat ≤ gg) ∧ Aside0 (W = l1 ++ putW a1 (l2.take i.toNat)) ∧ Aside0 (LastW w wr B2 (.slice A0 l0.length c0) (.slice A1 l1.length c1) (.slice p0 l0.length q0) v1 l0 W))
          case atStart => exact ⟨0, _, l1, rfl, ⟨by omega, by omega, by simp⟩, ⟨by simp [putW]⟩, HM⟩
          case round =>
            clear HM
            obtain ⟨i, v1, W, rfl, HI, HW, HM⟩ := hrel
            by_cases c2 : i < (l2.length : Int)
            · have c2b0 : decide (i < (l2.length : Int)) = true := decide_eq_true c2
              have hi0 : 0 ≤ i := HI.out.1
              obtain ⟨ad, ead, hx0⟩ := Kd.at_string HR2.out i hi0 c2
              cases ead
              replace hx0 := (HM.out.hb.cell (World.block_lt_of_cell? w _ hx0)).trans hx0
              have HI2 : Aside0 (l2.length - (i.toNat + 1) < gk ∧ 0 ≤ i + 1 ∧ i + 1 ≤ l2.length ∧ (i + 1).toNat = i.toNat + 1) := ⟨by have := HI.out; omega⟩
              have HWI : Aside0 (wrap64 (i + 1) = i + 1) := ⟨by unfold wrap64; omega⟩
              have HWA : Aside0 (wrap64 (a1 + i) = a1 + i) := ⟨by have := HN.out; unfold wrap64; omega⟩
              have HLW : Aside0 (W.length ≤ l1.length + 512) := ⟨by have := HN.out; rw [HW.out, List.length_append, putW_length, List.length_take]; omega⟩
              have HS : Aside0 (W ++ [⟨a1 + i, rdOf ByteArray.empty l2 i⟩] = l1 ++ putW a1 (l2.take (i + 1).toNat)) := ⟨by
                have hlt : i.toNat < l2.length := by omega
                have e : rdOf ByteArray.empty l2 i = l2[i.toNat] := by show l2.getD i.toNat _ = _; rw [List.getD_eq_getElem?_getD, List.getElem?_eq_getElem hlt]; rfl
                rw [HI2.out.2.2.2, List.take_succ_eq_append_getElem hlt, putW_snoc, HW.out, e, List.append_assoc, List.length_take, Nat.min_eq_left (by omega), Int.toNat_of_nonneg hi0]⟩
              have o1 : wr.cell? ⟨B2, 1, none⟩ = some v1 := (blk_cell HM.out.bo 1).trans rfl
              have oz := blk_frozen HM.out.bo 1
              obtain ⟨p2, q2, rfl⟩ := Kd.R_slice HM.out.r1
              have hwa := HWA.out
              replace c2 := eq_true c2
              replace hi0 := eq_true hi0
              go_wp2_with ((with_reducible refine gate_builtin (b := .append) (xs := #[.tmp 37, .tmp 43]) rfl ?_); (try (refine gate_guard (by rfl) ?_; dsimp only)); at_builtin; refine Kd.R_append k104 (w0 := w) w.heap.size rfl (.tmp 37) (.tmp 43) 84 104 (.agg #[(.int .i64 0), (.string ⟨#[]⟩)]) 24 rfl Try.underlying84 info104 rfl (by decide) (by omega) (.slice p2 W.length q2) W (⟨a1 + i, rdOf ByteArray.empty l2 i⟩ : S104) [.int .i64 (a1 + i), .string (rdOf ByteArray.empty l2 i)] (fun _ => True) (fun _ => False) rfl rfl ?aP (fun _ hk => hk.elim) ?aF ?aO ?aB ?aS ?aL ?_; (case aP => exact k104_mkM _ _ _ (⟨a1 + i, rdOf ByteArray.empty l2 i⟩ : S104)); (case aB => exact HM.out.hb); (case aF => exact (fun _ _ => trivial)); (case aO => exact HM.out.r1); (case aS => exact below_size HM.out.hb); (case aL => have := HLW.out; have := HFI.out; omega); intro v3 w51 ho hb hg hat; obtain ⟨p3, q3, rfl⟩ := Kd.R_slice ho; rw [show (W ++ [(⟨a1 + i, rdOf ByteArray.empty l2 i⟩ : S104)]).length = W.length + 1 from by simp] at ho; have b3 := blk_grown HM.out.bo hg (Kd.R_ne HM.out.r1 HM.out.bo (by decide)); (have o2 : w51.cell? ⟨B2, 1, none⟩ = some (.slice p2 W.length q2) := (blk_cell b3 1).trans rfl); have oz2 := blk_frozen b3 1; have HM2 := Aside0.mk (LastW.app HM.out ho hb hg); clear ho hb hg hat HM o1 oz b3)
              go_roundg (l2.length - (i.toNat + 1))
              case measure => exact HI2.out.1
              case rel => exact ⟨i + 1, _, _, by rw [HWI.out], ⟨HI2.out.2.1, HI2.out.2.2.1, by rw [HI2.out.2.2.2]; exact Nat.le_refl _⟩, HS, HM2⟩
            · have c2b0 : decide (i < (l2.length : Int)) = false := decide_eq_false c2
              obtain ⟨p2, q2, rfl⟩ := Kd.R_slice HM.out.r1
              have o0 : wr.cell? ⟨B2, 0, none⟩ = some (.slice p0 l0.length q0) := (blk_cell HM.out.bo 0).trans rfl
              have o1 : wr.cell? ⟨B2, 1, none⟩ = some (.slice p2 W.length q2) := (blk_cell HM.out.bo 1).trans rfl
              have y0 : wr.cell? ⟨w.heap.size + 1, 0, none⟩ = some (.slice none 0 0) := (blk_cell HM.out.br 0).trans rfl
              have y1 : wr.cell? ⟨w.heap.size + 1, 1, none⟩ = some (.slice none 0 0) := (blk_cell HM.out.br 1).trans rfl
              have z0 := blk_frozen HM.out.br 0
              have z1 := blk_frozen HM.out.br 1
              have HD : Aside0 (W = l1 ++ putW a1 l2) := ⟨by
                have hi := HI.out
                rw [HW.out, List.take_of_length_le (by omega)]⟩
              clear HW
              go_wp2_with fail
              have M := HM.out
              refine bodyPost_ret (results_ct rfl _ _ (w.heap.size + 1) 86 #[.slice p0 l0.length q0, .slice p2 W.length q2] (0, 0) _ rfl (blk_put (blk_put M.br 0 _ rfl) 1 _ rfl) Try.underlying86 rfl (by kernel_rfl)) rfl ⟨_, _, rfl, ?_, ?_, ?_⟩
              · exact Kd.R_set (Kd.R_set M.r0 M.br (by decide) 0 _) (blk_put M.br 0 _ rfl) (by decide) 1 _
              · rw [← HD.out]
                exact Kd.R_set (Kd.R_set M.r1 M.br (by decide) 0 _) (blk_put M.br 0 _ rfl) (by decide) 1 _
              · exact Below.setCell (Below.setCell M.hb (by simp) _) (by simp) _
  · rw [if_neg hf] at h
    exact absurd h (by simp)


end Go.Proofs.Ythidkdlmpkeogaa.F
