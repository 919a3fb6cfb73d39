/- Contracts of Go functions of the seat Ytpkapldkmleppaa: what a call comes to; no condition but those that each theorem names. -/
import Derived.Test.YtpkapldkmleppaaFPre
import Derived.Test.YtpkapldkmleppaaFLem
import Derived.Test.YtpkapldkmleppaaFdiskC
import Derived.Test.YtpkapldkmleppaaFdiskB
import Derived.Test.YtpkapldkmleppaaFdiskA
import Derived.Test.YtpkapldkmleppaaFstrings
namespace Go.Proofs.Ytpkapldkmleppaa.F
open Go.RowKit Go.Proofs.YtpkapldkmleppaaW.PrintWords Go.Proofs.YtpkapldkmleppaaW.PrintLast Go.Proofs.YtpkapldkmleppaaW.PrintMore
attribute [local go_sem] max2_int min2_int max_two min_two max_three min_three max_four min_four   -- for this text's walks alone
set_option linter.unusedVariables false
set_option linter.unusedSimpArgs false

/-! ### disk_Read: function 25 -/

def thereB (N : Nat) (a n : Int) : Bool := decide (0 ≤ n) && decide (n ≤ (N : Int)) && decide (0 ≤ a) && decide (a ≤ (N : Int) - n)
theorem there_is (l0 : List ByteArray) (l1 : List S76) (a n : Int) (hl : l0.length ≤ 9223372036854775807) : disk_there.f l0 l1 a n = some (thereB l0.length a n) := by
  unfold disk_there.f thereB
  by_cases h1 : n ≥ 0
  · rw [if_pos h1, decide_eq_true (show 0 ≤ n from h1), Bool.true_and]
    by_cases h2 : n ≤ (l0.length : Int)
    · rw [if_pos h2, decide_eq_true h2, Bool.true_and, show wrap64 ((l0.length : Int) - n) = (l0.length : Int) - n by unfold wrap64; omega]
      by_cases h3 : a ≥ 0
      · rw [if_pos h3, decide_eq_true (show 0 ≤ a from h3), Bool.true_and]
      · rw [if_neg h3, decide_eq_false (show ¬ 0 ≤ a from h3), Bool.false_and]
    · rw [if_neg h2, decide_eq_false h2, Bool.false_and, Bool.false_and]
  · rw [if_neg h1, decide_eq_false (show ¬ 0 ≤ n from h1), Bool.false_and, Bool.false_and, Bool.false_and]
theorem joinB_nil (l : List ByteArray) : Lib.join (l.map (·.data.toList)) [] = (l.map (·.data.toList)).flatten := by
  cases l with
  | nil => rfl
  | cons x r =>
    rw [List.map_cons, Lib.join_cons, Lib.joinTail, List.flatten_cons]
    congr 2
    simp
theorem flatten_size (l : List ByteArray) (h : ∀ s ∈ l, s.size = 32) : (l.map (·.data.toList)).flatten.length = 32 * l.length := by
  induction l with
  | nil => rfl
  | cons x r ih =>
    rw [List.map_cons, List.flatten_cons, List.length_append, ih (fun s hs => h s (List.mem_cons_of_mem _ hs)), data_length, h x List.mem_cons_self, List.length_cons]
    omega
theorem applyW_32 (kept : Nat → Bool) : ∀ (l : List S76) (i : Nat) (S : List ByteArray), (∀ x ∈ l, x.f1.size = 32) → (∀ s ∈ S, s.size = 32) → ∀ s ∈ applyW kept i l S, s.size = 32
  | [], _, _, _, hS => hS
  | x :: l, i, S, hl, hS => by
    rw [applyW]
    refine applyW_32 kept l _ _ (fun y hy => hl y (List.mem_cons_of_mem _ hy)) ?_
    split
    · intro s hs
      rcases List.mem_or_eq_of_mem_set hs with h | h
      · exact hS s h
      · rw [h]; exact hl x List.mem_cons_self
    · exact hS
theorem right_32 {l0 : List ByteArray} {l1 : List S76} (h : disk_right l0 l1 = true) : l0.length ≤ 512 ∧ (∀ s ∈ l0, s.size = 32) ∧ ∀ x ∈ l1, x.f1.size = 32 := by
  simp only [disk_right, Bool.and_eq_true, decide_eq_true_eq, Bool.not_eq_true', List.any_eq_false] at h
  refine ⟨h.1.1.2, fun s hs => by simpa using h.1.2 s hs, fun x hx => ?_⟩
  have := h.2 x hx
  simp only [wBad, Bool.or_eq_true, not_or] at this
  simpa using this.1
def readB (l0 : List ByteArray) (l1 : List S76) (a n : Int) : ByteArray := joinB (((lastingW (fun _ => true) l0 l1).1.take (a + n).toNat).drop a.toNat) ⟨#[]⟩
def disk_Read.f (l0 : List ByteArray) (l1 : List S76) (a1 : Int) (a2 : Int) : Option (ByteArray × Int) :=
  if disk_fit l0 l1 = true then (if (disk_right l0 l1 && thereB l0.length a1 a2) = true then some (readB l0 l1 a1 a2, 0) else some (⟨#[]⟩, 1)) else none
theorem join_ok {l0 : List ByteArray} {l1 : List S76} (hb : disk_right l0 l1 = true) (i j : Nat) : strings_Join.f (((lastingW (fun _ => true) l0 l1).1.take j).drop i) ⟨#[]⟩ = some (joinB (((lastingW (fun _ => true) l0 l1).1.take j).drop i) ⟨#[]⟩) := by
  obtain ⟨h1, h2, h3⟩ := right_32 hb
  have h4 := applyW_32 (fun _ => true) l1 0 l0 h3 h2
  have h5 := applyW_length (fun _ => true) l1 0 l0
  rw [show (lastingW (fun _ => true) l0 l1).1 = applyW (fun _ => true) 0 l1 l0 by simp [lastingW, hb]]
  generalize applyW (fun _ => true) 0 l1 l0 = S at h4 h5
  have h6 : ((S.take j).drop i).length ≤ 512 := by rw [List.length_drop, List.length_take]; omega
  have h7 := flatten_size ((S.take j).drop i) (fun s hs => h4 s (List.mem_of_mem_take (List.mem_of_mem_drop hs)))
  have h8 : (joinB ((S.take j).drop i) ⟨#[]⟩).size ≤ 140737488355328 := by
    simp only [joinB, ByteArray.size, List.size_toArray]
    rw [joinB_nil]
    omega
  unfold strings_Join.f
  rw [if_pos ⟨by omega, h8⟩]
theorem field_0 (p0 : Option Addr) (n0 q0 : Nat) (p1 : Option Addr) (n1 q1 : Nat) (w : World) : (Instr.field 25 (.agg #[.slice p0 n0 q0, .slice p1 n1 q1]) 0).run Try.prog w = .ok (.slice p0 n0 q0) w := by kernel_rfl
set_option maxHeartbeats 4000000 in
set_option maxRecDepth 100000 in
theorem disk_Read.calls (A0 : Option Addr) (c0 : Nat) (l0 : List ByteArray) (A1 : Option Addr) (c1 : Nat) (l1 : List S76) (a1 : Int) (a2 : Int) (r1 : ByteArray) (r2 : Int) (w : World)
    (hr0 : Kd.C Kd.string w A0 l0.length l0) (hc0 : l0.length ≤ c0) (hr1 : Kd.C k76 w A1 l1.length l1) (hc1 : l1.length ≤ c1) (h : disk_Read.f l0 l1 a1 a2 = some (r1, r2)) :
    Calls Try.prog 25 #[.agg #[.slice A0 l0.length c0, .slice A1 l1.length c1], .int .i64 a1, .int .i64 a2] w fun e w' => e = .returned (.tuple #[.string r1, .int .i64 r2]) ∧ Below w.heap.size w w' := by
  unfold disk_Read.f at h
  by_cases hf : disk_fit l0 l1 = true
  · rw [if_pos hf] at h
    have HF := Aside0.mk hf
    have HT0 := Aside0.mk (there_is l0 l1 a1 a2 (Kd.C_max hr0))
    have HR0 := Aside0.mk hr0
    have HC0 := Aside0.mk hc0
    have HR1 := Aside0.mk hr1
    have HC1 := Aside0.mk hc1
    clear hf hr0 hc0 hr1 hc1
    cases hb : disk_right l0 l1 with
    | false =>
      have HRT : Aside0 (disk_Right.f l0 l1 = some false) := ⟨congrArg some hb⟩
      rw [hb, Bool.false_and, if_neg (by decide)] at h
      simp only [Option.some.injEq, Prod.mk.injEq] at h
      obtain ⟨rfl, rfl⟩ := h
      clear hb
      go_enter Try.func25, Try.ntmps25
      go_wp2_with (go_at_call 46; (with_reducible refine (disk_Right.calls _ c0 l0 _ c1 l1 false _ ?s1 HC0.out ?s2 HC1.out HRT.out).mono ?_); (case s1 => exact Kd.C_alloc HR0.out _); (case s2 => exact Kd.C_alloc HR1.out _); rintro e w5 ⟨rfl, hb⟩; have HB5 := Aside0.mk (below_step (below_alloc (Below.refl w.heap.size w) _) hb); clear hb)
      go_ret2
      exact ⟨rfl, HB5.out⟩
    | true =>
      have HRT : Aside0 (disk_Right.f l0 l1 = some true) := ⟨congrArg some hb⟩
      have HJ := Aside0.mk (join_ok hb a1.toNat (a1 + a2).toNat)
      have HLN : Aside0 (l0.length ≤ 512 ∧ (lastingW (fun _ => true) l0 l1).1.length = l0.length) := ⟨(right_32 hb).1, by simp only [lastingW, hb, if_true, applyW_length]⟩
      rw [hb, Bool.true_and] at h
      clear hb
      cases ht : thereB l0.length a1 a2 with
      | false =>
        rw [ht, if_neg (by decide)] at h
        simp only [Option.some.injEq, Prod.mk.injEq] at h
        obtain ⟨rfl, rfl⟩ := h
        have HT : Aside0 (disk_there.f l0 l1 a1 a2 = some false) := ⟨HT0.out.trans (congrArg some ht)⟩
        clear ht HT0
        go_enter Try.func25, Try.ntmps25
        go_wp2_with (first
          | (go_at_call 46; (with_reducible refine (disk_Right.calls _ c0 l0 _ c1 l1 true _ ?s1 HC0.out ?s2 HC1.out HRT.out).mono ?_); (case s1 => exact Kd.C_alloc HR0.out _); (case s2 => exact Kd.C_alloc HR1.out _); rintro e w5 ⟨rfl, hb⟩; have HB5 := Aside0.mk (below_step (below_alloc (Below.refl w.heap.size w) _) hb); have BD := Aside0.mk (blk_below (heap_alloc_new w (.cells #[.slice A0 l0.length c0, .slice A1 l1.length c1] 25)) hb); (have x0 : w5.cell? ⟨w.heap.size, 0, none⟩ = some (.slice A0 l0.length c0) := (blk_cell BD.out 0).trans rfl); (have x1 : w5.cell? ⟨w.heap.size, 1, none⟩ = some (.slice A1 l1.length c1) := (blk_cell BD.out 1).trans rfl); clear hb)
          | (go_at_call 47; (with_reducible refine (disk_there.calls _ c0 l0 _ c1 l1 a1 a2 false _ ?s1 HC0.out ?s2 HC1.out HT.out).mono ?_); (case s1 => exact Kd.C_below HR0.out HB5.out); (case s2 => exact Kd.C_below HR1.out HB5.out); rintro e w6 ⟨rfl, hb⟩; have HB6 := Aside0.mk (below_step HB5.out hb); clear hb))
        go_ret2
        exact ⟨rfl, HB6.out⟩
      | true =>
        rw [ht, if_pos rfl] at h
        simp only [Option.some.injEq, Prod.mk.injEq] at h
        obtain ⟨rfl, rfl⟩ := h
        have HT : Aside0 (disk_there.f l0 l1 a1 a2 = some true) := ⟨HT0.out.trans (congrArg some ht)⟩
        simp only [thereB, Bool.and_eq_true, decide_eq_true_eq] at ht
        have HN : Aside0 (0 ≤ a1 ∧ a1 ≤ a1 + a2 ∧ a1 + a2 ≤ (lastingW (fun _ => true) l0 l1).1.length ∧ wrap64 (a1 + a2) = a1 + a2) := ⟨by have := HLN.out; unfold wrap64; omega⟩
        have HFL : Aside0 (disk_Flush.f l0 l1 = some ((lastingW (fun _ => true) l0 l1).1, (lastingW (fun _ => true) l0 l1).2)) := ⟨if_pos HF.out⟩
        unfold readB
        clear ht HT0 HLN HF
        generalize (lastingW (fun _ => true) l0 l1).1 = S at *
        generalize (lastingW (fun _ => true) l0 l1).2 = S2 at *
        obtain ⟨L, hL⟩ : ∃ L, (S.take (a1 + a2).toNat).drop a1.toNat = L := ⟨_, rfl⟩
        rw [hL] at HJ
        rw [hL]
        have HL := Aside0.mk hL
        clear hL
        have hw := HN.out.2.2.2
        go_enter Try.func25, Try.ntmps25
        go_wp2_with (first
          | (go_at_call 46; (with_reducible refine (disk_Right.calls _ c0 l0 _ c1 l1 true _ ?s1 HC0.out ?s2 HC1.out HRT.out).mono ?_); (case s1 => exact Kd.C_alloc HR0.out _); (case s2 => exact Kd.C_alloc HR1.out _); rintro e w5 ⟨rfl, hb⟩; have HB5 := Aside0.mk (below_step (below_alloc (Below.refl w.heap.size w) _) hb); have BD := Aside0.mk (blk_below (heap_alloc_new w (.cells #[.slice A0 l0.length c0, .slice A1 l1.length c1] 25)) hb); (have x0 : w5.cell? ⟨w.heap.size, 0, none⟩ = some (.slice A0 l0.length c0) := (blk_cell BD.out 0).trans rfl); (have x1 : w5.cell? ⟨w.heap.size, 1, none⟩ = some (.slice A1 l1.length c1) := (blk_cell BD.out 1).trans rfl); clear hb)
          | (go_at_call 47; (with_reducible refine (disk_there.calls _ c0 l0 _ c1 l1 a1 a2 true _ ?s1 HC0.out ?s2 HC1.out HT.out).mono ?_); (case s1 => exact Kd.C_below HR0.out HB5.out); (case s2 => exact Kd.C_below HR1.out HB5.out); rintro e w6 ⟨rfl, hb⟩; have HB6 := Aside0.mk (below_step HB5.out hb); have BE := Aside0.mk (blk_below BD.out hb); (have y0 : w6.cell? ⟨w.heap.size, 0, none⟩ = some (.slice A0 l0.length c0) := (blk_cell BE.out 0).trans rfl); (have y1 : w6.cell? ⟨w.heap.size, 1, none⟩ = some (.slice A1 l1.length c1) := (blk_cell BE.out 1).trans rfl); clear hb)
          | (go_at_call 22; (with_reducible refine (disk_Flush.calls _ c0 l0 _ c1 l1 S S2 _ ?s1 HC0.out ?s2 HC1.out HFL.out).mono ?_); (case s1 => exact Kd.C_below HR0.out HB6.out); (case s2 => exact Kd.C_below HR1.out HB6.out); rintro e w7 ⟨v0, v1, rfl, hv0, hv1, hb⟩; have HB7 := Aside0.mk (below_step HB6.out hb); obtain ⟨p0, q0, rfl, hq, hp⟩ := Kd.R_reads hv0; obtain ⟨p1, q1, rfl⟩ := Kd.R_slice hv1; have hfd := field_0 p0 S.length q0 p1 S2.length q1; have HP := Aside0.mk hp; have HQ := Aside0.mk hq; obtain ⟨i0, hi0, hz0, hz1, hz2⟩ := info_parts info9; have hcut := cut_mid (P := Try.prog) 22 9 .i64 .i64 Try.underlying22 hi0 1 hz1 p0 S.length q0 a1 (a1 + a2) HN.out.1 HN.out.2.1 HN.out.2.2.1 hq; have hlen : (a1 + a2).toNat - a1.toNat = L.length := (by have := HN.out; rw [← HL.out, List.length_drop, List.length_take]; omega); have hm := Kd.C_mid (lo := a1.toNat) (hi := (a1 + a2).toNat) hp (by have := HN.out; omega) (by have := HN.out; omega) hq; have hmc : L.length ≤ q0 - a1.toNat := (by have := HN.out; omega); rw [hlen] at hcut; rw [HL.out] at hm; have HM : Aside0 (Kd.C Kd.string w7 (if q0 = a1.toNat then p0 else p0.map (·.add (a1.toNat * 1))) L.length L) := ⟨hm⟩; have HMC := Aside0.mk hmc; generalize (if q0 = a1.toNat then p0 else p0.map (·.add (a1.toNat * 1))) = P0 at *; generalize q0 - a1.toNat = Q0 at *; clear hb hv0 hv1 hp hq hlen hi0 hz0 hz1 hz2 hm hmc)
          | (go_at_call 42; (with_reducible refine (strings_Join.calls _ _ L (⟨#[]⟩ : ByteArray) _ _ HM.out HMC.out HJ.out).mono ?_); rintro e w8 ⟨rfl, hb⟩; have HB8 := Aside0.mk (below_step HB7.out hb); clear hb))
        go_ret2
        exact ⟨rfl, HB8.out⟩
  · rw [if_neg hf] at h
    exact absurd h (by simp)


end Go.Proofs.Ytpkapldkmleppaa.F
