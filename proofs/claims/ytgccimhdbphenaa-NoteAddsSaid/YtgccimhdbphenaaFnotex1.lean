/- Contracts of Go functions of the seat Ytgccimhdbphenaa: what a call comes to; no condition but those that each theorem names. -/
import Derived.Test.YtgccimhdbphenaaFPre
import Derived.Test.YtgccimhdbphenaaFnotex0
namespace Go.Proofs.Ytgccimhdbphenaa.F
open Go.RowKit Go.Proofs.YtgccimhdbphenaaW.PrintWords Go.Proofs.YtgccimhdbphenaaW.PrintLast Go.Proofs.YtgccimhdbphenaaW.PrintMore
attribute [local go_sem] max2_int min2_int max_two min_two max_three min_three max_four min_four   -- for this text's walks alone
set_option linter.unusedVariables false
set_option linter.unusedSimpArgs false

/-! ### note_Both: function 31 -/
mutual
def note_Both.j0 : Nat → Bool → Int → ByteArray → ByteArray → Int → Int → ByteArray → ByteArray → Int → Option (Int × ByteArray × ByteArray × Int)
  | 0, _, _, _, _, _, _, _, _, _ => none
  | k + 1, x7, x296000, x296001, x296002, x296003, x297000, x297001, x297002, x297003 => if x7 = true then (some (x296000, x297001, x296002, x296003)) else (if x297000 = 3 then (if x296000 = 1 then (note_Both.j1 k (x296000 == 1) x296000 x296001 x296002 x296003 x297000 x297001 x297002 x297003) else (note_Both.j1 k (x296000 == 2) x296000 x296001 x296002 x296003 x297000 x297001 x297002 x297003)) else (some (x297000, x297001, x297002, x297003)))
def note_Both.j1 : Nat → Bool → Int → ByteArray → ByteArray → Int → Int → ByteArray → ByteArray → Int → Option (Int × ByteArray × ByteArray × Int)
  | 0, _, _, _, _, _, _, _, _, _ => none
  | k + 1, x30, x296000, x296001, x296002, x296003, x297000, x297001, x297002, x297003 => if x30 = true then ((note_Done.f k x296002 (x296000 == 1) (([(⟨x297000, x297001, x297002, x297003⟩ : S55)] : List (S55)))).bind fun bt301 => (some (1, x297001, bt301.1, 0))) else (if x296000 = 3 then (some (x297000, x297001, x297002, IntKind.u64.wrap (x297003 + x296003))) else (some (x297000, x297001, x297002, x297003)))
end
def note_Both.f (k : Nat) (a0_0 : Int) (a0_1 : ByteArray) (a0_2 : ByteArray) (a0_3 : Int) (a1_0 : Int) (a1_1 : ByteArray) (a1_2 : ByteArray) (a1_3 : Int) : Option (Int × ByteArray × ByteArray × Int) := if a1_0 = 1 then (note_Both.j0 k false a0_0 a0_1 a0_2 a0_3 a1_0 a1_1 a1_2 a1_3) else (if a1_0 = 2 then (note_Both.j0 k false a0_0 a0_1 a0_2 a0_3 a1_0 a1_1 a1_2 a1_3) else (note_Both.j0 k (a1_0 != 3) a0_0 a0_1 a0_2 a0_3 a1_0 a1_1 a1_2 a1_3))
theorem note_Both.mono_l : ∀ k, (∀ y0 y1 y2 y3 y4 y5 y6 y7 y8, LeO (note_Both.j0 k y0 y1 y2 y3 y4 y5 y6 y7 y8) (note_Both.j0 (k + 1) y0 y1 y2 y3 y4 y5 y6 y7 y8)) ∧ (∀ y0 y1 y2 y3 y4 y5 y6 y7 y8, LeO (note_Both.j1 k y0 y1 y2 y3 y4 y5 y6 y7 y8) (note_Both.j1 (k + 1) y0 y1 y2 y3 y4 y5 y6 y7 y8))
  | 0 => ⟨fun _ _ _ _ _ _ _ _ _ r h => by simp [note_Both.j0] at h, fun _ _ _ _ _ _ _ _ _ r h => by simp [note_Both.j1] at h⟩
  | k + 1 => by
    obtain ⟨ih0, ih1⟩ := note_Both.mono_l k
    refine ⟨?_, ?_⟩
    · intro y0 y1 y2 y3 y4 y5 y6 y7 y8
      unfold note_Both.j0
      repeat' first
      | (with_reducible exact ih0 _ _ _ _ _ _ _ _ _)
      | (with_reducible exact ih1 _ _ _ _ _ _ _ _ _)
      | (with_reducible exact note_Done.mono _ _ _ _)
      | (with_reducible exact LeO.refl _)
      | (with_reducible exact LeO.none _)
      | (with_reducible refine LeO.ite ?_ ?_)
      | (with_reducible refine LeO.bind ?_ (fun _ => ?_))
      | exact ih0 _ _ _ _ _ _ _ _ _
      | exact ih1 _ _ _ _ _ _ _ _ _
      | exact note_Done.mono _ _ _ _
      | exact LeO.none _
      | refine LeO.ite ?_ ?_
      | refine LeO.bind ?_ (fun _ => ?_)
    · intro y0 y1 y2 y3 y4 y5 y6 y7 y8
      unfold note_Both.j1
      repeat' first
      | (with_reducible exact ih0 _ _ _ _ _ _ _ _ _)
      | (with_reducible exact ih1 _ _ _ _ _ _ _ _ _)
      | (with_reducible exact note_Done.mono _ _ _ _)
      | (with_reducible exact LeO.refl _)
      | (with_reducible exact LeO.none _)
      | (with_reducible refine LeO.ite ?_ ?_)
      | (with_reducible refine LeO.bind ?_ (fun _ => ?_))
      | exact ih0 _ _ _ _ _ _ _ _ _
      | exact ih1 _ _ _ _ _ _ _ _ _
      | exact note_Done.mono _ _ _ _
      | exact LeO.none _
      | refine LeO.ite ?_ ?_
      | refine LeO.bind ?_ (fun _ => ?_)
theorem note_Both.mono : ∀ a0 a1 a2 a3 a4 a5 a6 a7 k, LeO (note_Both.f k a0 a1 a2 a3 a4 a5 a6 a7) (note_Both.f (k + 1) a0 a1 a2 a3 a4 a5 a6 a7) := by
  intro a0 a1 a2 a3 a4 a5 a6 a7 k
  obtain ⟨ih0, ih1⟩ := note_Both.mono_l k
  unfold note_Both.f
  repeat' first
      | (with_reducible exact ih0 _ _ _ _ _ _ _ _ _)
      | (with_reducible exact ih1 _ _ _ _ _ _ _ _ _)
      | (with_reducible exact note_Done.mono _ _ _ _)
      | (with_reducible exact LeO.refl _)
      | (with_reducible exact LeO.none _)
      | (with_reducible refine LeO.ite ?_ ?_)
      | (with_reducible refine LeO.bind ?_ (fun _ => ?_))
      | exact ih0 _ _ _ _ _ _ _ _ _
      | exact ih1 _ _ _ _ _ _ _ _ _
      | exact note_Done.mono _ _ _ _
      | exact LeO.none _
      | refine LeO.ite ?_ ?_
      | refine LeO.bind ?_ (fun _ => ?_)
set_option maxHeartbeats 8000000 in
set_option maxRecDepth 100000 in
theorem note_Both.calls (k : Nat) (a0_0 : Int) (a0_1 : ByteArray) (a0_2 : ByteArray) (a0_3 : Int) (a1_0 : Int) (a1_1 : ByteArray) (a1_2 : ByteArray) (a1_3 : Int) (r1 : Int) (r2 : ByteArray) (r3 : ByteArray) (r4 : Int) (w : World) (h : note_Both.f k a0_0 a0_1 a0_2 a0_3 a1_0 a1_1 a1_2 a1_3 = some (r1, r2, r3, r4)) :
    Calls Try.prog 31 #[.agg #[.int .i64 a0_0, .string a0_1, .string a0_2, .int .u64 a0_3], .agg #[.int .i64 a1_0, .string a1_1, .string a1_2, .int .u64 a1_3]] w fun e w' => e = .returned (.agg #[.int .i64 r1, .string r2, .string r3, .int .u64 r4]) ∧ Below w.heap.size w w' := by
  have hu55 := Try.underlying55
  have HB := Aside0.mk (Below.refl w.heap.size w)
  have H : (if a1_0 = 1 then (note_Both.j0 k false a0_0 a0_1 a0_2 a0_3 a1_0 a1_1 a1_2 a1_3) else (if a1_0 = 2 then (note_Both.j0 k false a0_0 a0_1 a0_2 a0_3 a1_0 a1_1 a1_2 a1_3) else (note_Both.j0 k (a1_0 != 3) a0_0 a0_1 a0_2 a0_3 a1_0 a1_1 a1_2 a1_3))) = some (r1, r2, r3, r4) := h
  clear h
  have HC3 := Aside0.mk H
  clear H
  go_enter Try.func31, Try.ntmps31
  go_upto_region 1 with (first | ((with_reducible refine gate_dst (N := 2) rfl ?_); refine box_event ?hg (N := 2) ?hd (cs := #[.int .i64 a0_0, .string a0_1, .string a0_2, .int .u64 a0_3]) (t := 55) ?hr ?_; (case hd => rfl); (case hg => rfl); (case hr => first | (go_simp; done) | (go_simp; rfl)); intro gb295 hg w4 hbox hb; have n0_ := Aside0.mk (below_step (by repeat (first | (with_reducible first | exact HB.out | apply below_alloc | apply pw_below_drewN | apply below_drew1) | exact HB.out)) hb); have n1_ := Aside0.mk (hbox); have n2_ := Aside0.mk ((by rw [hg]; exact (below_size (by repeat (first | (with_reducible first | exact HB.out | apply below_alloc | apply pw_below_drewN | apply below_drew1) | exact HB.out))) : w.heap.size ≤ gb295)); have n3_ := Aside0.mk ((by rw [hg]; exact (below_size (by repeat (first | (with_reducible first | exact HB.out | apply below_alloc | apply pw_below_drewN | apply below_drew1) | exact HB.out))) : w.heap.size ≤ gb295)); clear HB; have HB := n0_; have BK295 := n1_; have GW295 := n2_; have GE295 := n3_; clear n0_ n1_ n2_ n3_; clear hb hbox hg) | ((with_reducible refine gate_dst (N := 3) rfl ?_); refine box_event ?hg (N := 3) ?hd (cs := #[.int .i64 a1_0, .string a1_1, .string a1_2, .int .u64 a1_3]) (t := 55) ?hr ?_; (case hd => rfl); (case hg => rfl); (case hr => first | (go_simp; done) | (go_simp; rfl)); intro gb296 hg w5 hbox hb; have n0_ := Aside0.mk (blk_below (g := gb295) (o := .cells #[.int .i64 a0_0, .string a0_1, .string a0_2, .int .u64 a0_3] 55 (0, 0)) (by (with_reducible repeat (first | refine blk_drewN ?_ _ | refine blk_drew ?_ | refine blk_alloc ?_ _)); exact BK295.out) hb); have n1_ := Aside0.mk (below_step (by repeat (first | (with_reducible first | exact HB.out | apply below_alloc | apply pw_below_drewN | apply below_drew1 | refine below_set ?_ GE295.out) | exact HB.out)) hb); have n2_ := Aside0.mk (hbox); have n3_ := Aside0.mk ((by rw [hg]; exact (below_size (by repeat (first | (with_reducible first | exact HB.out | apply below_alloc | apply pw_below_drewN | apply below_drew1 | refine below_set ?_ GE295.out) | exact HB.out))) : w.heap.size ≤ gb296)); have n4_ := Aside0.mk ((by rw [hg]; exact (below_size (by repeat (first | (with_reducible first | exact HB.out | apply below_alloc | apply pw_below_drewN | apply below_drew1 | refine below_set ?_ GE295.out) | exact HB.out))) : w.heap.size ≤ gb296)); have n5_ := Aside0.mk ((by rw [hg]; exact Nat.ne_of_lt (blk_lt (g := gb295) (o := .cells #[.int .i64 a0_0, .string a0_1, .string a0_2, .int .u64 a0_3] 55 (0, 0)) (by (with_reducible repeat (first | refine blk_drewN ?_ _ | refine blk_drew ?_ | refine blk_alloc ?_ _)); exact BK295.out)) : gb295 ≠ gb296)); have n6_ := Aside0.mk ((by rw [hg]; exact Nat.ne_of_gt (blk_lt (g := gb295) (o := .cells #[.int .i64 a0_0, .string a0_1, .string a0_2, .int .u64 a0_3] 55 (0, 0)) (by (with_reducible repeat (first | refine blk_drewN ?_ _ | refine blk_drew ?_ | refine blk_alloc ?_ _)); exact BK295.out)) : gb296 ≠ gb295)); clear BK295; clear HB; have BK295 := n0_; have HB := n1_; have BK296 := n2_; have GW296 := n3_; have GE296 := n4_; have NB295_296 := n5_; have NB296_295 := n6_; clear n0_ n1_ n2_ n3_ n4_ n5_ n6_; clear hb hbox hg) | ((with_reducible refine gate_dst (N := 4) rfl ?_); refine box_event ?hg (N := 4) ?hd (cs := #[.int .i64 0, .string (⟨#[]⟩ : ByteArray), .string (⟨#[]⟩ : ByteArray), .int .u64 0]) (t := 55) ?hr ?_; (case hd => rfl); (case hg => rfl); (case hr => first | (go_simp; done) | (go_simp; rfl)); intro gb297 hg w6 hbox hb; have n0_ := Aside0.mk (blk_below (g := gb295) (o := .cells #[.int .i64 a0_0, .string a0_1, .string a0_2, .int .u64 a0_3] 55 (0, 0)) (by (with_reducible repeat (first | refine blk_drewN ?_ _ | refine blk_drew ?_ | refine blk_alloc ?_ _)); exact BK295.out) hb); have n1_ := Aside0.mk (blk_below (g := gb296) (o := .cells #[.int .i64 a1_0, .string a1_1, .string a1_2, .int .u64 a1_3] 55 (0, 0)) (by (with_reducible repeat (first | refine blk_drewN ?_ _ | refine blk_drew ?_ | refine blk_alloc ?_ _)); exact BK296.out) hb); have n2_ := Aside0.mk (below_step (by repeat (first | (with_reducible first | exact HB.out | apply below_alloc | apply pw_below_drewN | apply below_drew1 | refine below_set ?_ GE295.out | refine below_set ?_ GE296.out) | exact HB.out)) hb); have n3_ := Aside0.mk (hbox); have n4_ := Aside0.mk ((by rw [hg]; exact (below_size (by repeat (first | (with_reducible first | exact HB.out | apply below_alloc | apply pw_below_drewN | apply below_drew1 | refine below_set ?_ GE295.out | refine below_set ?_ GE296.out) | exact HB.out))) : w.heap.size ≤ gb297)); have n5_ := Aside0.mk ((by rw [hg]; exact (below_size (by repeat (first | (with_reducible first | exact HB.out | apply below_alloc | apply pw_below_drewN | apply below_drew1 | refine below_set ?_ GE295.out | refine below_set ?_ GE296.out) | exact HB.out))) : w.heap.size ≤ gb297)); have n6_ := Aside0.mk ((by rw [hg]; exact Nat.ne_of_lt (blk_lt (g := gb295) (o := .cells #[.int .i64 a0_0, .string a0_1, .string a0_2, .int .u64 a0_3] 55 (0, 0)) (by (with_reducible repeat (first | refine blk_drewN ?_ _ | refine blk_drew ?_ | refine blk_alloc ?_ _)); exact BK295.out)) : gb295 ≠ gb297)); have n7_ := Aside0.mk ((by rw [hg]; exact Nat.ne_of_gt (blk_lt (g := gb295) (o := .cells #[.int .i64 a0_0, .string a0_1, .string a0_2, .int .u64 a0_3] 55 (0, 0)) (by (with_reducible repeat (first | refine blk_drewN ?_ _ | refine blk_drew ?_ | refine blk_alloc ?_ _)); exact BK295.out)) : gb297 ≠ gb295)); have n8_ := Aside0.mk ((by rw [hg]; exact Nat.ne_of_lt (blk_lt (g := gb296) (o := .cells #[.int .i64 a1_0, .string a1_1, .string a1_2, .int .u64 a1_3] 55 (0, 0)) (by (with_reducible repeat (first | refine blk_drewN ?_ _ | refine blk_drew ?_ | refine blk_alloc ?_ _)); exact BK296.out)) : gb296 ≠ gb297)); have n9_ := Aside0.mk ((by rw [hg]; exact Nat.ne_of_gt (blk_lt (g := gb296) (o := .cells #[.int .i64 a1_0, .string a1_1, .string a1_2, .int .u64 a1_3] 55 (0, 0)) (by (with_reducible repeat (first | refine blk_drewN ?_ _ | refine blk_drew ?_ | refine blk_alloc ?_ _)); exact BK296.out)) : gb297 ≠ gb296)); clear BK295; clear BK296; clear HB; have BK295 := n0_; have BK296 := n1_; have HB := n2_; have BK297 := n3_; have GW297 := n4_; have GE297 := n5_; have NB295_297 := n6_; have NB297_295 := n7_; have NB296_297 := n8_; have NB297_296 := n9_; clear n0_ n1_ n2_ n3_ n4_ n5_ n6_ n7_ n8_ n9_; clear hb hbox hg))
  (try simp only [Act.put, List.setIfInBounds_toArray, List.set_cons_zero, List.set_cons_succ])
  go_cut [7] (fun v7 wc => ∃ (kq : Nat) (x7_2 : Bool), v7 = .bool x7_2 ∧ Aside0 (note_Both.j0 kq x7_2 a0_0 a0_1 a0_2 a0_3 a1_0 a1_1 a1_2 a1_3 = some (r1, r2, r3, r4)) ∧ Aside0 (kq ≤ k) ∧ Aside0 (wc.heap[gb295]? = some (.cells #[.int .i64 a0_0, .string a0_1, .string a0_2, .int .u64 a0_3] 55 (0, 0))) ∧ Aside0 (wc.heap[gb296]? = some (.cells #[.int .i64 a1_0, .string a1_1, .string a1_2, .int .u64 a1_3] 55 (0, 0))) ∧ Aside0 (wc.heap[gb297]? = some (.cells #[.int .i64 0, .string (⟨#[]⟩ : ByteArray), .string (⟨#[]⟩ : ByteArray), .int .u64 0] 55 (0, 0))) ∧ Aside0 (Below w.heap.size w wc))
  case first =>
    have H := HC3.out
    clear HC3
    by_cases c7 : a1_0 = 1
    · rw [if_pos c7] at H
      have c7b0 : (a1_0 == 1) = true := beq_iff_eq.mpr c7
      have c7b1 : (a1_0 != 1) = false := bne_eq_false_iff_eq.mpr c7
      clear c7
      (first | rw [c7b0] | (simp only [i64_w, i32_w]; rw [c7b0]) | skip)
      have H' := Aside0.mk H
      clear H
      have hnb8 := NB296_295.out
      have hnc8 := NB295_296.out
      have hnb9 := NB296_297.out
      have hnc9 := NB297_296.out
      have hcz10_0 : w6.cell? ⟨gb296, 0, none⟩ = some (.int .i64 a1_0) := (blk_cell BK296.out 0).trans rfl
      have hcz10_1 : w6.cell? ⟨gb296, 1, none⟩ = some (.string a1_1) := (blk_cell BK296.out 1).trans rfl
      have hcz10_2 : w6.cell? ⟨gb296, 2, none⟩ = some (.string a1_2) := (blk_cell BK296.out 2).trans rfl
      have hcz10_3 : w6.cell? ⟨gb296, 3, none⟩ = some (.int .u64 a1_3) := (blk_cell BK296.out 3).trans rfl
      have hfz10_0 := blk_frozen BK296.out 0
      have hfz10_1 := blk_frozen BK296.out 1
      have hfz10_2 := blk_frozen BK296.out 2
      have hfz10_3 := blk_frozen BK296.out 3
      go_wp2
      go_meet
      case rel => exact ⟨_, (false), (by first | rfl | (simp; done) | (simp [*]; done)), H', ⟨by first | omega | exact Nat.le_refl _⟩, ⟨by (with_reducible repeat (first | refine blk_drewN ?_ _ | refine blk_drew ?_ | refine blk_alloc ?_ _)); exact BK295.out⟩, ⟨by (with_reducible repeat (first | refine blk_drewN ?_ _ | refine blk_drew ?_ | refine blk_alloc ?_ _)); exact BK296.out⟩, ⟨by (with_reducible repeat (first | refine blk_drewN ?_ _ | refine blk_drew ?_ | refine blk_alloc ?_ _)); exact BK297.out⟩, ⟨by repeat (first | (with_reducible first | exact HB.out | apply below_alloc | apply pw_below_drewN | apply below_drew1 | refine below_set ?_ GE295.out | refine below_set ?_ GE296.out | refine below_set ?_ GE297.out) | exact HB.out)⟩⟩
    · rw [if_neg c7] at H
      have c7b0 : (a1_0 == 1) = false := beq_eq_false_iff_ne.mpr c7
      have c7b1 : (a1_0 != 1) = true := bne_iff_ne.mpr c7
      (first | rw [c7b0] | (simp only [i64_w, i32_w]; rw [c7b0]) | skip)
      by_cases c11 : a1_0 = 2
      · rw [if_pos c11] at H
        have c11b0 : (a1_0 == 2) = true := beq_iff_eq.mpr c11
        have c11b1 : (a1_0 != 2) = false := bne_eq_false_iff_eq.mpr c11
        clear c11
        have H' := Aside0.mk H
        clear H
        have hnb12 := NB296_295.out
        have hnc12 := NB295_296.out
        have hnb13 := NB296_297.out
        have hnc13 := NB297_296.out
        have hcz14_0 : w6.cell? ⟨gb296, 0, none⟩ = some (.int .i64 a1_0) := (blk_cell BK296.out 0).trans rfl
        have hcz14_1 : w6.cell? ⟨gb296, 1, none⟩ = some (.string a1_1) := (blk_cell BK296.out 1).trans rfl
        have hcz14_2 : w6.cell? ⟨gb296, 2, none⟩ = some (.string a1_2) := (blk_cell BK296.out 2).trans rfl
        have hcz14_3 : w6.cell? ⟨gb296, 3, none⟩ = some (.int .u64 a1_3) := (blk_cell BK296.out 3).trans rfl
        have hfz14_0 := blk_frozen BK296.out 0
        have hfz14_1 := blk_frozen BK296.out 1
        have hfz14_2 := blk_frozen BK296.out 2
        have hfz14_3 := blk_frozen BK296.out 3
        go_wp2
        go_meet
        case rel => exact ⟨_, (false), (by first | rfl | (simp; done) | (simp [*]; done)), H', ⟨by first | omega | exact Nat.le_refl _⟩, ⟨by (with_reducible repeat (first | refine blk_drewN ?_ _ | refine blk_drew ?_ | refine blk_alloc ?_ _)); exact BK295.out⟩, ⟨by (with_reducible repeat (first | refine blk_drewN ?_ _ | refine blk_drew ?_ | refine blk_alloc ?_ _)); exact BK296.out⟩, ⟨by (with_reducible repeat (first | refine blk_drewN ?_ _ | refine blk_drew ?_ | refine blk_alloc ?_ _)); exact BK297.out⟩, ⟨by repeat (first | (with_reducible first | exact HB.out | apply below_alloc | apply pw_below_drewN | apply below_drew1 | refine below_set ?_ GE295.out | refine below_set ?_ GE296.out | refine below_set ?_ GE297.out) | exact HB.out)⟩⟩
      · rw [if_neg c11] at H
        have c11b0 : (a1_0 == 2) = false := beq_eq_false_iff_ne.mpr c11
        have c11b1 : (a1_0 != 2) = true := bne_iff_ne.mpr c11
        have H' := Aside0.mk H
        clear H
        have hnb15 := NB296_295.out
        have hnc15 := NB295_296.out
        have hnb16 := NB296_297.out
        have hnc16 := NB297_296.out
        have hcz17_0 : w6.cell? ⟨gb296, 0, none⟩ = some (.int .i64 a1_0) := (blk_cell BK296.out 0).trans rfl
        have hcz17_1 : w6.cell? ⟨gb296, 1, none⟩ = some (.string a1_1) := (blk_cell BK296.out 1).trans rfl
        have hcz17_2 : w6.cell? ⟨gb296, 2, none⟩ = some (.string a1_2) := (blk_cell BK296.out 2).trans rfl
        have hcz17_3 : w6.cell? ⟨gb296, 3, none⟩ = some (.int .u64 a1_3) := (blk_cell BK296.out 3).trans rfl
        have hfz17_0 := blk_frozen BK296.out 0
        have hfz17_1 := blk_frozen BK296.out 1
        have hfz17_2 := blk_frozen BK296.out 2
        have hfz17_3 := blk_frozen BK296.out 3
        go_wp2
        go_meet
        case rel => exact ⟨_, ((a1_0 != 3)), (by first | rfl | (simp; done) | (simp [*]; done)), H', ⟨by first | omega | exact Nat.le_refl _⟩, ⟨by (with_reducible repeat (first | refine blk_drewN ?_ _ | refine blk_drew ?_ | refine blk_alloc ?_ _)); exact BK295.out⟩, ⟨by (with_reducible repeat (first | refine blk_drewN ?_ _ | refine blk_drew ?_ | refine blk_alloc ?_ _)); exact BK296.out⟩, ⟨by (with_reducible repeat (first | refine blk_drewN ?_ _ | refine blk_drew ?_ | refine blk_alloc ?_ _)); exact BK297.out⟩, ⟨by repeat (first | (with_reducible first | exact HB.out | apply below_alloc | apply pw_below_drewN | apply below_drew1 | refine below_set ?_ GE295.out | refine below_set ?_ GE296.out | refine below_set ?_ GE297.out) | exact HB.out)⟩⟩
  case rest =>
    clear HC3
    try clear c1
    try clear p2
    try clear c3
    try clear c7
    try clear c7b0
    try clear c7b1
    try clear c8
    try clear c9
    try clear c11
    try clear c11b0
    try clear c11b1
    try clear c12
    try clear c13
    try clear c15
    try clear c16
    try clear hcz10_0
    try clear hcz10_1
    try clear hcz10_2
    try clear hcz10_3
    try clear hcz14_0
    try clear hcz14_1
    try clear hcz14_2
    try clear hcz14_3
    try clear hcz17_0
    try clear hcz17_1
    try clear hcz17_2
    try clear hcz17_3
    try clear hfz10_0
    try clear hfz10_1
    try clear hfz10_2
    try clear hfz10_3
    try clear hfz14_0
    try clear hfz14_1
    try clear hfz14_2
    try clear hfz14_3
    try clear hfz17_0
    try clear hfz17_1
    try clear hfz17_2
    try clear hfz17_3
    obtain ⟨kq, x7_2, rfl, HA, HJ2, BK295, BK296, BK297, HB⟩ := hcut
    cases kq with
    | zero => exact absurd HA.out (by simp [note_Both.j0])
    | succ kj2 =>
      have H := HA.out
      clear HA
      simp only [note_Both.j0] at H
      by_cases c18 : x7_2 = true
      · subst c18
        have H1 : (some (a0_0, a1_1, a0_2, a0_3)) = some (r1, r2, r3, r4) := by rw [if_pos rfl] at H; exact H
        clear H
        have H := H1
        clear H1
        simp only [Option.some.injEq, Prod.mk.injEq] at H
        obtain ⟨rfl, rfl, rfl, rfl⟩ := H
        have hnb19 := NB296_295.out
        have hnc19 := NB295_296.out
        have hnb20 := NB296_297.out
        have hnc20 := NB297_296.out
        have hcz21_0 : wc.cell? ⟨gb296, 0, none⟩ = some (.int .i64 a1_0) := (blk_cell BK296.out 0).trans rfl
        have hcz21_1 : wc.cell? ⟨gb296, 1, none⟩ = some (.string a1_1) := (blk_cell BK296.out 1).trans rfl
        have hcz21_2 : wc.cell? ⟨gb296, 2, none⟩ = some (.string a1_2) := (blk_cell BK296.out 2).trans rfl
        have hcz21_3 : wc.cell? ⟨gb296, 3, none⟩ = some (.int .u64 a1_3) := (blk_cell BK296.out 3).trans rfl
        have hfz21_0 := blk_frozen BK296.out 0
        have hfz21_1 := blk_frozen BK296.out 1
        have hfz21_2 := blk_frozen BK296.out 2
        have hfz21_3 := blk_frozen BK296.out 3
        have hnb22 := NB295_297.out
        have hnc22 := NB297_295.out
        have hcz23_0 : wc.cell? ⟨gb295, 0, none⟩ = some (.int .i64 a0_0) := (blk_cell BK295.out 0).trans rfl
        have hcz23_1 : wc.cell? ⟨gb295, 1, none⟩ = some (.string a0_1) := (blk_cell BK295.out 1).trans rfl
        have hcz23_2 : wc.cell? ⟨gb295, 2, none⟩ = some (.string a0_2) := (blk_cell BK295.out 2).trans rfl
        have hcz23_3 : wc.cell? ⟨gb295, 3, none⟩ = some (.int .u64 a0_3) := (blk_cell BK295.out 3).trans rfl
        have hfz23_0 := blk_frozen BK295.out 0
        have hfz23_1 := blk_frozen BK295.out 1
        have hfz23_2 := blk_frozen BK295.out 2
        have hfz23_3 := blk_frozen BK295.out 3
        have hcz24_0 : wc.cell? ⟨gb297, 0, none⟩ = some (.int .i64 0) := (blk_cell BK297.out 0).trans rfl
        have hcz24_1 : wc.cell? ⟨gb297, 1, none⟩ = some (.string (⟨#[]⟩ : ByteArray)) := (blk_cell BK297.out 1).trans rfl
        have hcz24_2 : wc.cell? ⟨gb297, 2, none⟩ = some (.string (⟨#[]⟩ : ByteArray)) := (blk_cell BK297.out 2).trans rfl
        have hcz24_3 : wc.cell? ⟨gb297, 3, none⟩ = some (.int .u64 0) := (blk_cell BK297.out 3).trans rfl
        have hfz24_0 := blk_frozen BK297.out 0
        have hfz24_1 := blk_frozen BK297.out 1
        have hfz24_2 := blk_frozen BK297.out 2
        have hfz24_3 := blk_frozen BK297.out 3
        go_wp2
        refine bodyPost_ret (results_cell_row rfl _ _ gb297 55 #[.int .i64 a0_0, .string a1_1, .string a0_2, .int .u64 a0_3] (0, 0) _ rfl (by (with_reducible repeat (first | refine blk_drewN ?_ _ | refine blk_drew ?_ | refine blk_alloc ?_ _)); refine blk_put (cs := #[.int .i64 a0_0, .string a1_1, .string a0_2, .int .u64 0]) ?_ 3 _ rfl; (with_reducible repeat (first | refine blk_drewN ?_ _ | refine blk_drew ?_ | refine blk_alloc ?_ _)); refine blk_put (cs := #[.int .i64 a0_0, .string a1_1, .string (⟨#[]⟩ : ByteArray), .int .u64 0]) ?_ 2 _ rfl; (with_reducible repeat (first | refine blk_drewN ?_ _ | refine blk_drew ?_ | refine blk_alloc ?_ _)); refine blk_put (cs := #[.int .i64 a0_0, .string (⟨#[]⟩ : ByteArray), .string (⟨#[]⟩ : ByteArray), .int .u64 0]) ?_ 1 _ rfl; (with_reducible repeat (first | refine blk_drewN ?_ _ | refine blk_drew ?_ | refine blk_alloc ?_ _)); refine blk_put (cs := #[.int .i64 0, .string (⟨#[]⟩ : ByteArray), .string (⟨#[]⟩ : ByteArray), .int .u64 0]) ?_ 0 _ rfl; (with_reducible repeat (first | refine blk_drewN ?_ _ | refine blk_drew ?_ | refine blk_alloc ?_ _)); refine blk_far ?_ NB297_295.out _; (with_reducible repeat (first | refine blk_drewN ?_ _ | refine blk_drew ?_ | refine blk_alloc ?_ _)); exact BK297.out) Try.underlying55 rfl (by kernel_rfl)) rfl ?_
        exact ⟨by first | rfl | (simp [errW_none, errW_some] <;> rfl) | (simp [*, errW_none, errW_some] <;> rfl), by repeat (first | (with_reducible first | exact HB.out | apply below_alloc | apply pw_below_drewN | apply below_drew1 | refine below_set ?_ GE295.out | refine below_set ?_ GE296.out | refine below_set ?_ GE297.out) | exact HB.out)⟩
      · replace c18 := Bool.eq_false_iff.mpr c18
        subst c18
        have H1 : (if a1_0 = 3 then (if a0_0 = 1 then (note_Both.j1 kj2 (a0_0 == 1) a0_0 a0_1 a0_2 a0_3 a1_0 a1_1 a1_2 a1_3) else (note_Both.j1 kj2 (a0_0 == 2) a0_0 a0_1 a0_2 a0_3 a1_0 a1_1 a1_2 a1_3)) else (some (a1_0, a1_1, a1_2, a1_3))) = some (r1, r2, r3, r4) := by rw [if_neg (show ¬ (false = true) by decide)] at H; exact H
        clear H
        have H := H1
        clear H1
        by_cases c25 : a1_0 = 3
        · rw [if_pos c25] at H
          have c25b0 : (a1_0 == 3) = true := beq_iff_eq.mpr c25
          have c25b1 : (a1_0 != 3) = false := bne_eq_false_iff_eq.mpr c25
          clear c25
          have HC26 := Aside0.mk H
          clear H
          have hnb27 := NB296_295.out
          have hnc27 := NB295_296.out
          have hnb28 := NB296_297.out
          have hnc28 := NB297_296.out
          have hcz29_0 : wc.cell? ⟨gb296, 0, none⟩ = some (.int .i64 a1_0) := (blk_cell BK296.out 0).trans rfl
          have hcz29_1 : wc.cell? ⟨gb296, 1, none⟩ = some (.string a1_1) := (blk_cell BK296.out 1).trans rfl
          have hcz29_2 : wc.cell? ⟨gb296, 2, none⟩ = some (.string a1_2) := (blk_cell BK296.out 2).trans rfl
          have hcz29_3 : wc.cell? ⟨gb296, 3, none⟩ = some (.int .u64 a1_3) := (blk_cell BK296.out 3).trans rfl
          have hfz29_0 := blk_frozen BK296.out 0
          have hfz29_1 := blk_frozen BK296.out 1
          have hfz29_2 := blk_frozen BK296.out 2
          have hfz29_3 := blk_frozen BK296.out 3
          have hnb30 := NB295_297.out
          have hnc30 := NB297_295.out
          have hcz31_0 : wc.cell? ⟨gb295, 0, none⟩ = some (.int .i64 a0_0) := (blk_cell BK295.out 0).trans rfl
          have hcz31_1 : wc.cell? ⟨gb295, 1, none⟩ = some (.string a0_1) := (blk_cell BK295.out 1).trans rfl
          have hcz31_2 : wc.cell? ⟨gb295, 2, none⟩ = some (.string a0_2) := (blk_cell BK295.out 2).trans rfl
          have hcz31_3 : wc.cell? ⟨gb295, 3, none⟩ = some (.int .u64 a0_3) := (blk_cell BK295.out 3).trans rfl
          have hfz31_0 := blk_frozen BK295.out 0
          have hfz31_1 := blk_frozen BK295.out 1
          have hfz31_2 := blk_frozen BK295.out 2
          have hfz31_3 := blk_frozen BK295.out 3
          go_upto_if 30 with (fail)
          go_cut [30] (fun v30 wc => ∃ (kq : Nat) (x30_25 : Bool), v30 = .bool x30_25 ∧ Aside0 (note_Both.j1 kq x30_25 a0_0 a0_1 a0_2 a0_3 a1_0 a1_1 a1_2 a1_3 = some (r1, r2, r3, r4)) ∧ Aside0 (kq ≤ kj2) ∧ Aside0 (wc.heap[gb295]? = some (.cells #[.int .i64 a0_0, .string a0_1, .string a0_2, .int .u64 a0_3] 55 (0, 0))) ∧ Aside0 (wc.heap[gb296]? = some (.cells #[.int .i64 a1_0, .string a1_1, .string a1_2, .int .u64 a1_3] 55 (0, 0))) ∧ Aside0 (wc.heap[gb297]? = some (.cells #[.int .i64 0, .string (⟨#[]⟩ : ByteArray), .string (⟨#[]⟩ : ByteArray), .int .u64 0] 55 (0, 0))) ∧ Aside0 (Below w.heap.size w wc))
          case first =>
            have H := HC26.out
            clear HC26
            by_cases c32 : a0_0 = 1
            · rw [if_pos c32] at H
              have c32b0 : (a0_0 == 1) = true := beq_iff_eq.mpr c32
              have c32b1 : (a0_0 != 1) = false := bne_eq_false_iff_eq.mpr c32
              clear c32
              (first | rw [c32b0] | (simp only [i64_w, i32_w]; rw [c32b0]) | skip)
              have H' := Aside0.mk H
              clear H
              go_wp2
              go_meet
              case rel => exact ⟨_, ((a0_0 == 1)), (by first | rfl | (simp; done) | (simp [*]; done)), H', ⟨by have := HJ2.out; first | omega | exact Nat.le_refl _⟩, ⟨by (with_reducible repeat (first | refine blk_drewN ?_ _ | refine blk_drew ?_ | refine blk_alloc ?_ _)); exact BK295.out⟩, ⟨by (with_reducible repeat (first | refine blk_drewN ?_ _ | refine blk_drew ?_ | refine blk_alloc ?_ _)); exact BK296.out⟩, ⟨by (with_reducible repeat (first | refine blk_drewN ?_ _ | refine blk_drew ?_ | refine blk_alloc ?_ _)); exact BK297.out⟩, ⟨by repeat (first | (with_reducible first | exact HB.out | apply below_alloc | apply pw_below_drewN | apply below_drew1 | refine below_set ?_ GE295.out | refine below_set ?_ GE296.out | refine below_set ?_ GE297.out) | exact HB.out)⟩⟩
            · rw [if_neg c32] at H
              have c32b0 : (a0_0 == 1) = false := beq_eq_false_iff_ne.mpr c32
              have c32b1 : (a0_0 != 1) = true := bne_iff_ne.mpr c32
              (first | rw [c32b0] | (simp only [i64_w, i32_w]; rw [c32b0]) | skip)
              have H' := Aside0.mk H
              clear H
              have hnb33 := NB295_296.out
              have hnc33 := NB296_295.out
              have hnb34 := NB295_297.out
              have hnc34 := NB297_295.out
              have hcz35_0 : wc.cell? ⟨gb295, 0, none⟩ = some (.int .i64 a0_0) := (blk_cell BK295.out 0).trans rfl
              have hcz35_1 : wc.cell? ⟨gb295, 1, none⟩ = some (.string a0_1) := (blk_cell BK295.out 1).trans rfl
              have hcz35_2 : wc.cell? ⟨gb295, 2, none⟩ = some (.string a0_2) := (blk_cell BK295.out 2).trans rfl
              have hcz35_3 : wc.cell? ⟨gb295, 3, none⟩ = some (.int .u64 a0_3) := (blk_cell BK295.out 3).trans rfl
              have hfz35_0 := blk_frozen BK295.out 0
              have hfz35_1 := blk_frozen BK295.out 1
              have hfz35_2 := blk_frozen BK295.out 2
              have hfz35_3 := blk_frozen BK295.out 3
              go_wp2
              go_meet
              case rel => exact ⟨_, ((a0_0 == 2)), (by first | rfl | (simp; done) | (simp [*]; done)), H', ⟨by have := HJ2.out; first | omega | exact Nat.le_refl _⟩, ⟨by (with_reducible repeat (first | refine blk_drewN ?_ _ | refine blk_drew ?_ | refine blk_alloc ?_ _)); exact BK295.out⟩, ⟨by (with_reducible repeat (first | refine blk_drewN ?_ _ | refine blk_drew ?_ | refine blk_alloc ?_ _)); exact BK296.out⟩, ⟨by (with_reducible repeat (first | refine blk_drewN ?_ _ | refine blk_drew ?_ | refine blk_alloc ?_ _)); exact BK297.out⟩, ⟨by repeat (first | (with_reducible first | exact HB.out | apply below_alloc | apply pw_below_drewN | apply below_drew1 | refine below_set ?_ GE295.out | refine below_set ?_ GE296.out | refine below_set ?_ GE297.out) | exact HB.out)⟩⟩
          case rest =>
            clear HC26
            try clear c1
            try clear c2
            try clear p2
            try clear c3
            try clear c7
            try clear c7b0
            try clear c7b1
            try clear c8
            try clear c9
            try clear c11
            try clear c11b0
            try clear c11b1
            try clear c12
            try clear c13
            try clear c15
            try clear c16
            try clear c18
            try clear c19
            try clear c20
            try clear c22
            try clear c25
            try clear c25b0
            try clear c25b1
            try clear c27
            try clear c28
            try clear c30
            try clear c31
            try clear c32
            try clear c32b0
            try clear c32b1
            try clear c33
            try clear c34
            try clear hcz10_0
            try clear hcz10_1
            try clear hcz10_2
            try clear hcz10_3
            try clear hcz14_0
            try clear hcz14_1
            try clear hcz14_2
            try clear hcz14_3
            try clear hcz17_0
            try clear hcz17_1
            try clear hcz17_2
            try clear hcz17_3
            try clear hcz21_0
            try clear hcz21_1
            try clear hcz21_2
            try clear hcz21_3
            try clear hcz23_0
            try clear hcz23_1
            try clear hcz23_2
            try clear hcz23_3
            try clear hcz24_0
            try clear hcz24_1
            try clear hcz24_2
            try clear hcz24_3
            try clear hcz29_0
            try clear hcz29_1
            try clear hcz29_2
            try clear hcz29_3
            try clear hcz31_0
            try clear hcz31_1
            try clear hcz31_2
            try clear hcz31_3
            try clear hcz35_0
            try clear hcz35_1
            try clear hcz35_2
            try clear hcz35_3
            try clear hfz10_0
            try clear hfz10_1
            try clear hfz10_2
            try clear hfz10_3
            try clear hfz14_0
            try clear hfz14_1
            try clear hfz14_2
            try clear hfz14_3
            try clear hfz17_0
            try clear hfz17_1
            try clear hfz17_2
            try clear hfz17_3
            try clear hfz21_0
            try clear hfz21_1
            try clear hfz21_2
            try clear hfz21_3
            try clear hfz23_0
            try clear hfz23_1
            try clear hfz23_2
            try clear hfz23_3
            try clear hfz24_0
            try clear hfz24_1
            try clear hfz24_2
            try clear hfz24_3
            try clear hfz29_0
            try clear hfz29_1
            try clear hfz29_2
            try clear hfz29_3
            try clear hfz31_0
            try clear hfz31_1
            try clear hfz31_2
            try clear hfz31_3
            try clear hfz35_0
            try clear hfz35_1
            try clear hfz35_2
            try clear hfz35_3
            try clear p2
            obtain ⟨kq, x30_25, rfl, HA, HJ25, BK295, BK296, BK297, HB⟩ := hcut
            cases kq with
            | zero => exact absurd HA.out (by simp [note_Both.j1])
            | succ kj25 =>
              have H := HA.out
              clear HA
              simp only [note_Both.j1] at H
              by_cases c36 : x30_25 = true
              · subst c36
                have H1 : ((note_Done.f kj25 a0_2 (a0_0 == 1) (([(⟨a1_0, a1_1, a1_2, a1_3⟩ : S55)] : List (S55)))).bind fun bt301 => (some (1, a1_1, bt301.1, 0))) = some (r1, r2, r3, r4) := by rw [if_pos rfl] at H; exact H
                clear H
                have H := H1
                clear H1
                obtain ⟨y298, hy298⟩ : ∃ y_ : List (S55), y_ = (([(⟨a1_0, a1_1, a1_2, a1_3⟩ : S55)] : List (S55))) := ⟨_, rfl⟩
                replace H : ((note_Done.f kj25 a0_2 (a0_0 == 1) y298).bind fun bt301 => (some (1, a1_1, bt301.1, 0))) = some (r1, r2, r3, r4) := by first | (rw [hy298]; with_reducible exact H) | (have H2_ := (Option.bind_some _ _).symm.trans H; rw [hy298]; with_reducible exact H2_) | (have H2_ := (Option.bind_some _ _).symm.trans H; with_reducible exact H2_) | with_reducible exact H | (rw [hy298]; exact H) | exact H
                have Ny298 := Aside0.mk hy298
                clear hy298
                replace H := Option.bind_eq_some_iff.mp H
                obtain ⟨⟨t301, t302⟩, A370, H⟩ := H
                replace H : (some (1, a1_1, t301, 0)) = some (r1, r2, r3, r4) := H
                have A37 := Aside0.mk A370
                clear A370
                simp only [Option.some.injEq, Prod.mk.injEq] at H
                obtain ⟨rfl, rfl, rfl, rfl⟩ := H
                have hnb38 := NB295_296.out
                have hnc38 := NB296_295.out
                have hnb39 := NB295_297.out
                have hnc39 := NB297_295.out
                have hcz40_0 : wc.cell? ⟨gb295, 0, none⟩ = some (.int .i64 a0_0) := (blk_cell BK295.out 0).trans rfl
                have hcz40_1 : wc.cell? ⟨gb295, 1, none⟩ = some (.string a0_1) := (blk_cell BK295.out 1).trans rfl
                have hcz40_2 : wc.cell? ⟨gb295, 2, none⟩ = some (.string a0_2) := (blk_cell BK295.out 2).trans rfl
                have hcz40_3 : wc.cell? ⟨gb295, 3, none⟩ = some (.int .u64 a0_3) := (blk_cell BK295.out 3).trans rfl
                have hfz40_0 := blk_frozen BK295.out 0
                have hfz40_1 := blk_frozen BK295.out 1
                have hfz40_2 := blk_frozen BK295.out 2
                have hfz40_3 := blk_frozen BK295.out 3
                have hnb41 := NB296_297.out
                have hnc41 := NB297_296.out
                have hcz42_0 : wc.cell? ⟨gb296, 0, none⟩ = some (.int .i64 a1_0) := (blk_cell BK296.out 0).trans rfl
                have hcz42_1 : wc.cell? ⟨gb296, 1, none⟩ = some (.string a1_1) := (blk_cell BK296.out 1).trans rfl
                have hcz42_2 : wc.cell? ⟨gb296, 2, none⟩ = some (.string a1_2) := (blk_cell BK296.out 2).trans rfl
                have hcz42_3 : wc.cell? ⟨gb296, 3, none⟩ = some (.int .u64 a1_3) := (blk_cell BK296.out 3).trans rfl
                have hfz42_0 := blk_frozen BK296.out 0
                have hfz42_1 := blk_frozen BK296.out 1
                have hfz42_2 := blk_frozen BK296.out 2
                have hfz42_3 := blk_frozen BK296.out 3
                go_wp2_with (first | ((with_reducible refine gate_dst (N := 44) rfl ?_); refine Kd.R_lit k55 _ 55 ?hg (N := 44) ?hd (xs := ([(⟨a1_0, a1_1, a1_2, a1_3⟩ : S55)] : List (S55))) (inner := [.int .i64 a1_0, .string a1_1, .string a1_2, .int .u64 a1_3]) (ok := fun _ => True) (okp := fun _ => True) ?hr ?hp (fun _ hk => hk) trivial (Below.refl _ _) (Nat.le_refl _) (by simp) ?_; (case hd => rfl); (case hg => rfl); (case hr => first | (go_simp; done) | (go_simp; rfl)); (case hp => exact (Reps.c4 (show Kd.M k55 _ _ _ (⟨a1_0, a1_1, a1_2, a1_3⟩ : S55) [.int .i64 a1_0, .string a1_1, .string a1_2, .int .u64 a1_3] from (k55_mkM _ _ _ (⟨a1_0, a1_1, a1_2, a1_3⟩ : S55) )) (Reps.none _ _))); intro v299 w43 ho44 hb hg_ hnew_; clear hg_ hnew_; (first | rw [← Ny298.out] at ho44 | (simp only [Int.reduceToNat] at ho44; rw [← Ny298.out] at ho44)); have n0_ := Aside0.mk (Kd.R_lower (Kd.R_newB (Kd.R_newB (Kd.R_newB ho44 (g := gb295) (o := .cells #[.int .i64 a0_0, .string a0_1, .string a0_2, .int .u64 a0_3] 55 (0, 0)) (by (with_reducible repeat (first | refine blk_drewN ?_ _ | refine blk_drew ?_ | refine blk_alloc ?_ _)); exact BK295.out)) (g := gb296) (o := .cells #[.int .i64 a1_0, .string a1_1, .string a1_2, .int .u64 a1_3] 55 (0, 0)) (by (with_reducible repeat (first | refine blk_drewN ?_ _ | refine blk_drew ?_ | refine blk_alloc ?_ _)); exact BK296.out)) (g := gb297) (o := .cells #[.int .i64 0, .string (⟨#[]⟩ : ByteArray), .string (⟨#[]⟩ : ByteArray), .int .u64 0] 55 (0, 0)) (by (with_reducible repeat (first | refine blk_drewN ?_ _ | refine blk_drew ?_ | refine blk_alloc ?_ _)); exact BK297.out)) (below_size (by repeat (first | (with_reducible first | exact HB.out | apply below_alloc | apply pw_below_drewN | apply below_drew1 | refine below_set ?_ GE295.out | refine below_set ?_ GE296.out | refine below_set ?_ GE297.out) | exact HB.out)))); have n1_ := Aside0.mk (blk_below (g := gb295) (o := .cells #[.int .i64 a0_0, .string a0_1, .string a0_2, .int .u64 a0_3] 55 (0, 0)) (by (with_reducible repeat (first | refine blk_drewN ?_ _ | refine blk_drew ?_ | refine blk_alloc ?_ _)); exact BK295.out) hb); have n2_ := Aside0.mk (blk_below (g := gb296) (o := .cells #[.int .i64 a1_0, .string a1_1, .string a1_2, .int .u64 a1_3] 55 (0, 0)) (by (with_reducible repeat (first | refine blk_drewN ?_ _ | refine blk_drew ?_ | refine blk_alloc ?_ _)); exact BK296.out) hb); have n3_ := Aside0.mk (blk_below (g := gb297) (o := .cells #[.int .i64 0, .string (⟨#[]⟩ : ByteArray), .string (⟨#[]⟩ : ByteArray), .int .u64 0] 55 (0, 0)) (by (with_reducible repeat (first | refine blk_drewN ?_ _ | refine blk_drew ?_ | refine blk_alloc ?_ _)); exact BK297.out) hb); have n4_ := Aside0.mk (below_step (by repeat (first | (with_reducible first | exact HB.out | apply below_alloc | apply pw_below_drewN | apply below_drew1 | refine below_set ?_ GE295.out | refine below_set ?_ GE296.out | refine below_set ?_ GE297.out) | exact HB.out)) hb); clear BK295; clear BK296; clear BK297; clear HB; have HO300 := n0_; have BK295 := n1_; have BK296 := n2_; have BK297 := n3_; have HB := n4_; clear n0_ n1_ n2_ n3_ n4_; clear hb ho44; obtain ⟨Ao45, co45, eo45⟩ := Kd.R_slice HO300.out; subst eo45) | ((with_reducible refine gate_callee (f := 30) rfl ?_); refine goesL_ (some 45) rfl rfl Try.func30 (by kernel_rfl) rfl #[.string a0_2, .bool (a0_0 == 1), .slice Ao45 y298.length co45] rfl (by (try simp only [List.map_toArray, List.map_cons, List.map_nil]); first | done | rfl | (simp only [List.length_drop, List.length_take]; rfl)) ?_; (with_reducible refine (note_Done.calls kj25 a0_2 (a0_0 == 1) _ _ y298 t301 t302 _ ?side1 ?side2 A37.out).mono ?_); (case side1 => repeat (first | exact (Kd.R_reads' HO300.out).2.2 | (with_reducible refine Kd.C_alloc ?_ _) | (with_reducible refine Kd.C_drewN ?_ _) | (with_reducible refine Kd.C_drew ?_))); (case side2 => exact (Kd.R_reads' HO300.out).2.1); rintro e w46 ⟨rfl, hb⟩; refine ⟨_, rfl, ?_⟩; have n0_ := Aside0.mk (Kd.R_below (by (with_reducible repeat (first | apply Kd.R_alloc | apply Kd.R_drewN | apply Kd.R_drew)); exact HO300.out) hb); have n1_ := Aside0.mk (blk_below (g := gb295) (o := .cells #[.int .i64 a0_0, .string a0_1, .string a0_2, .int .u64 a0_3] 55 (0, 0)) (by (with_reducible repeat (first | refine blk_drewN ?_ _ | refine blk_drew ?_ | refine blk_alloc ?_ _)); exact BK295.out) hb); have n2_ := Aside0.mk (blk_below (g := gb296) (o := .cells #[.int .i64 a1_0, .string a1_1, .string a1_2, .int .u64 a1_3] 55 (0, 0)) (by (with_reducible repeat (first | refine blk_drewN ?_ _ | refine blk_drew ?_ | refine blk_alloc ?_ _)); exact BK296.out) hb); have n3_ := Aside0.mk (blk_below (g := gb297) (o := .cells #[.int .i64 0, .string (⟨#[]⟩ : ByteArray), .string (⟨#[]⟩ : ByteArray), .int .u64 0] 55 (0, 0)) (by (with_reducible repeat (first | refine blk_drewN ?_ _ | refine blk_drew ?_ | refine blk_alloc ?_ _)); exact BK297.out) hb); have n4_ := Aside0.mk (below_step (by repeat (first | (with_reducible first | exact HB.out | apply below_alloc | apply pw_below_drewN | apply below_drew1 | refine below_set ?_ GE295.out | refine below_set ?_ GE296.out | refine below_set ?_ GE297.out) | exact HB.out)) hb); clear HO300; clear BK295; clear BK296; clear BK297; clear HB; have HO300 := n0_; have BK295 := n1_; have BK296 := n2_; have BK297 := n3_; have HB := n4_; clear n0_ n1_ n2_ n3_ n4_; (try clear hb); (try clear hb2); (try clear hk); (try clear hi); have hcz47_0 : w46.cell? ⟨gb296, 0, none⟩ = some (.int .i64 a1_0) := (blk_cell BK296.out 0).trans rfl; have hcz47_1 : w46.cell? ⟨gb296, 1, none⟩ = some (.string a1_1) := (blk_cell BK296.out 1).trans rfl; have hcz47_2 : w46.cell? ⟨gb296, 2, none⟩ = some (.string a1_2) := (blk_cell BK296.out 2).trans rfl; have hcz47_3 : w46.cell? ⟨gb296, 3, none⟩ = some (.int .u64 a1_3) := (blk_cell BK296.out 3).trans rfl; have hfz47_0 := blk_frozen BK296.out 0; have hfz47_1 := blk_frozen BK296.out 1; have hfz47_2 := blk_frozen BK296.out 2; have hfz47_3 := blk_frozen BK296.out 3; have hcz48_0 : w46.cell? ⟨gb297, 0, none⟩ = some (.int .i64 0) := (blk_cell BK297.out 0).trans rfl; have hcz48_1 : w46.cell? ⟨gb297, 1, none⟩ = some (.string (⟨#[]⟩ : ByteArray)) := (blk_cell BK297.out 1).trans rfl; have hcz48_2 : w46.cell? ⟨gb297, 2, none⟩ = some (.string (⟨#[]⟩ : ByteArray)) := (blk_cell BK297.out 2).trans rfl; have hcz48_3 : w46.cell? ⟨gb297, 3, none⟩ = some (.int .u64 0) := (blk_cell BK297.out 3).trans rfl; have hfz48_0 := blk_frozen BK297.out 0; have hfz48_1 := blk_frozen BK297.out 1; have hfz48_2 := blk_frozen BK297.out 2; have hfz48_3 := blk_frozen BK297.out 3))
                refine bodyPost_ret (results_cell_row rfl _ _ gb297 55 #[.int .i64 1, .string a1_1, .string t301, .int .u64 0] (0, 0) _ rfl (by (with_reducible repeat (first | refine blk_drewN ?_ _ | refine blk_drew ?_ | refine blk_alloc ?_ _)); refine blk_put (cs := #[.int .i64 1, .string a1_1, .string t301, .int .u64 0]) ?_ 3 _ rfl; (with_reducible repeat (first | refine blk_drewN ?_ _ | refine blk_drew ?_ | refine blk_alloc ?_ _)); refine blk_put (cs := #[.int .i64 1, .string a1_1, .string (⟨#[]⟩ : ByteArray), .int .u64 0]) ?_ 2 _ rfl; (with_reducible repeat (first | refine blk_drewN ?_ _ | refine blk_drew ?_ | refine blk_alloc ?_ _)); refine blk_put (cs := #[.int .i64 1, .string (⟨#[]⟩ : ByteArray), .string (⟨#[]⟩ : ByteArray), .int .u64 0]) ?_ 1 _ rfl; (with_reducible repeat (first | refine blk_drewN ?_ _ | refine blk_drew ?_ | refine blk_alloc ?_ _)); refine blk_put (cs := #[.int .i64 0, .string (⟨#[]⟩ : ByteArray), .string (⟨#[]⟩ : ByteArray), .int .u64 0]) ?_ 0 _ rfl; (with_reducible repeat (first | refine blk_drewN ?_ _ | refine blk_drew ?_ | refine blk_alloc ?_ _)); exact BK297.out) Try.underlying55 rfl (by kernel_rfl)) rfl ?_
                exact ⟨by first | rfl | (simp [errW_none, errW_some] <;> rfl) | (simp [*, errW_none, errW_some] <;> rfl), by repeat (first | (with_reducible first | exact HB.out | apply below_alloc | apply pw_below_drewN | apply below_drew1 | refine below_set ?_ GE295.out | refine below_set ?_ GE296.out | refine below_set ?_ GE297.out) | exact HB.out)⟩
              · replace c36 := Bool.eq_false_iff.mpr c36
                subst c36
                have H1 : (if a0_0 = 3 then (some (a1_0, a1_1, a1_2, IntKind.u64.wrap (a1_3 + a0_3))) else (some (a1_0, a1_1, a1_2, a1_3))) = some (r1, r2, r3, r4) := by rw [if_neg (show ¬ (false = true) by decide)] at H; exact H
                clear H
                have H := H1
                clear H1
                by_cases c49 : a0_0 = 3
                · rw [if_pos c49] at H
                  have c49b0 : (a0_0 == 3) = true := beq_iff_eq.mpr c49
                  have c49b1 : (a0_0 != 3) = false := bne_eq_false_iff_eq.mpr c49
                  clear c49
                  simp only [Option.some.injEq, Prod.mk.injEq] at H
                  obtain ⟨rfl, rfl, rfl, rfl⟩ := H
                  have hnb50 := NB295_296.out
                  have hnc50 := NB296_295.out
                  have hnb51 := NB295_297.out
                  have hnc51 := NB297_295.out
                  have hcz52_0 : wc.cell? ⟨gb295, 0, none⟩ = some (.int .i64 a0_0) := (blk_cell BK295.out 0).trans rfl
                  have hcz52_1 : wc.cell? ⟨gb295, 1, none⟩ = some (.string a0_1) := (blk_cell BK295.out 1).trans rfl
                  have hcz52_2 : wc.cell? ⟨gb295, 2, none⟩ = some (.string a0_2) := (blk_cell BK295.out 2).trans rfl
                  have hcz52_3 : wc.cell? ⟨gb295, 3, none⟩ = some (.int .u64 a0_3) := (blk_cell BK295.out 3).trans rfl
                  have hfz52_0 := blk_frozen BK295.out 0
                  have hfz52_1 := blk_frozen BK295.out 1
                  have hfz52_2 := blk_frozen BK295.out 2
                  have hfz52_3 := blk_frozen BK295.out 3
                  have hnb53 := NB296_297.out
                  have hnc53 := NB297_296.out
                  have hcz54_0 : wc.cell? ⟨gb296, 0, none⟩ = some (.int .i64 a1_0) := (blk_cell BK296.out 0).trans rfl
                  have hcz54_1 : wc.cell? ⟨gb296, 1, none⟩ = some (.string a1_1) := (blk_cell BK296.out 1).trans rfl
                  have hcz54_2 : wc.cell? ⟨gb296, 2, none⟩ = some (.string a1_2) := (blk_cell BK296.out 2).trans rfl
                  have hcz54_3 : wc.cell? ⟨gb296, 3, none⟩ = some (.int .u64 a1_3) := (blk_cell BK296.out 3).trans rfl
                  have hfz54_0 := blk_frozen BK296.out 0
                  have hfz54_1 := blk_frozen BK296.out 1
                  have hfz54_2 := blk_frozen BK296.out 2
                  have hfz54_3 := blk_frozen BK296.out 3
                  have hcz55_0 : wc.cell? ⟨gb297, 0, none⟩ = some (.int .i64 0) := (blk_cell BK297.out 0).trans rfl
                  have hcz55_1 : wc.cell? ⟨gb297, 1, none⟩ = some (.string (⟨#[]⟩ : ByteArray)) := (blk_cell BK297.out 1).trans rfl
                  have hcz55_2 : wc.cell? ⟨gb297, 2, none⟩ = some (.string (⟨#[]⟩ : ByteArray)) := (blk_cell BK297.out 2).trans rfl
                  have hcz55_3 : wc.cell? ⟨gb297, 3, none⟩ = some (.int .u64 0) := (blk_cell BK297.out 3).trans rfl
                  have hfz55_0 := blk_frozen BK297.out 0
                  have hfz55_1 := blk_frozen BK297.out 1
                  have hfz55_2 := blk_frozen BK297.out 2
                  have hfz55_3 := blk_frozen BK297.out 3
                  go_wp2
                  refine bodyPost_ret (results_cell_row rfl _ _ gb297 55 #[.int .i64 a1_0, .string a1_1, .string a1_2, .int .u64 (IntKind.u64.wrap (a1_3 + a0_3))] (0, 0) _ rfl (by (with_reducible repeat (first | refine blk_drewN ?_ _ | refine blk_drew ?_ | refine blk_alloc ?_ _)); refine blk_put (cs := #[.int .i64 a1_0, .string a1_1, .string a1_2, .int .u64 0]) ?_ 3 _ rfl; (with_reducible repeat (first | refine blk_drewN ?_ _ | refine blk_drew ?_ | refine blk_alloc ?_ _)); refine blk_put (cs := #[.int .i64 a1_0, .string a1_1, .string (⟨#[]⟩ : ByteArray), .int .u64 0]) ?_ 2 _ rfl; (with_reducible repeat (first | refine blk_drewN ?_ _ | refine blk_drew ?_ | refine blk_alloc ?_ _)); refine blk_put (cs := #[.int .i64 a1_0, .string (⟨#[]⟩ : ByteArray), .string (⟨#[]⟩ : ByteArray), .int .u64 0]) ?_ 1 _ rfl; (with_reducible repeat (first | refine blk_drewN ?_ _ | refine blk_drew ?_ | refine blk_alloc ?_ _)); refine blk_put (cs := #[.int .i64 0, .string (⟨#[]⟩ : ByteArray), .string (⟨#[]⟩ : ByteArray), .int .u64 0]) ?_ 0 _ rfl; (with_reducible repeat (first | refine blk_drewN ?_ _ | refine blk_drew ?_ | refine blk_alloc ?_ _)); refine blk_far ?_ NB297_296.out _; (with_reducible repeat (first | refine blk_drewN ?_ _ | refine blk_drew ?_ | refine blk_alloc ?_ _)); exact BK297.out) Try.underlying55 rfl (by kernel_rfl)) rfl ?_
                  exact ⟨by first | rfl | (simp [errW_none, errW_some] <;> rfl) | (simp [*, errW_none, errW_some] <;> rfl), by repeat (first | (with_reducible first | exact HB.out | apply below_alloc | apply pw_below_drewN | apply below_drew1 | refine below_set ?_ GE295.out | refine below_set ?_ GE296.out | refine below_set ?_ GE297.out) | exact HB.out)⟩
                · rw [if_neg c49] at H
                  have c49b0 : (a0_0 == 3) = false := beq_eq_false_iff_ne.mpr c49
                  have c49b1 : (a0_0 != 3) = true := bne_iff_ne.mpr c49
                  simp only [Option.some.injEq, Prod.mk.injEq] at H
                  obtain ⟨rfl, rfl, rfl, rfl⟩ := H
                  have hnb56 := NB295_296.out
                  have hnc56 := NB296_295.out
                  have hnb57 := NB295_297.out
                  have hnc57 := NB297_295.out
                  have hcz58_0 : wc.cell? ⟨gb295, 0, none⟩ = some (.int .i64 a0_0) := (blk_cell BK295.out 0).trans rfl
                  have hcz58_1 : wc.cell? ⟨gb295, 1, none⟩ = some (.string a0_1) := (blk_cell BK295.out 1).trans rfl
                  have hcz58_2 : wc.cell? ⟨gb295, 2, none⟩ = some (.string a0_2) := (blk_cell BK295.out 2).trans rfl
                  have hcz58_3 : wc.cell? ⟨gb295, 3, none⟩ = some (.int .u64 a0_3) := (blk_cell BK295.out 3).trans rfl
                  have hfz58_0 := blk_frozen BK295.out 0
                  have hfz58_1 := blk_frozen BK295.out 1
                  have hfz58_2 := blk_frozen BK295.out 2
                  have hfz58_3 := blk_frozen BK295.out 3
                  have hnb59 := NB296_297.out
                  have hnc59 := NB297_296.out
                  have hcz60_0 : wc.cell? ⟨gb296, 0, none⟩ = some (.int .i64 a1_0) := (blk_cell BK296.out 0).trans rfl
                  have hcz60_1 : wc.cell? ⟨gb296, 1, none⟩ = some (.string a1_1) := (blk_cell BK296.out 1).trans rfl
                  have hcz60_2 : wc.cell? ⟨gb296, 2, none⟩ = some (.string a1_2) := (blk_cell BK296.out 2).trans rfl
                  have hcz60_3 : wc.cell? ⟨gb296, 3, none⟩ = some (.int .u64 a1_3) := (blk_cell BK296.out 3).trans rfl
                  have hfz60_0 := blk_frozen BK296.out 0
                  have hfz60_1 := blk_frozen BK296.out 1
                  have hfz60_2 := blk_frozen BK296.out 2
                  have hfz60_3 := blk_frozen BK296.out 3
                  have hcz61_0 : wc.cell? ⟨gb297, 0, none⟩ = some (.int .i64 0) := (blk_cell BK297.out 0).trans rfl
                  have hcz61_1 : wc.cell? ⟨gb297, 1, none⟩ = some (.string (⟨#[]⟩ : ByteArray)) := (blk_cell BK297.out 1).trans rfl
                  have hcz61_2 : wc.cell? ⟨gb297, 2, none⟩ = some (.string (⟨#[]⟩ : ByteArray)) := (blk_cell BK297.out 2).trans rfl
                  have hcz61_3 : wc.cell? ⟨gb297, 3, none⟩ = some (.int .u64 0) := (blk_cell BK297.out 3).trans rfl
                  have hfz61_0 := blk_frozen BK297.out 0
                  have hfz61_1 := blk_frozen BK297.out 1
                  have hfz61_2 := blk_frozen BK297.out 2
                  have hfz61_3 := blk_frozen BK297.out 3
                  go_wp2
                  refine bodyPost_ret (results_cell_row rfl _ _ gb297 55 #[.int .i64 a1_0, .string a1_1, .string a1_2, .int .u64 a1_3] (0, 0) _ rfl (by (with_reducible repeat (first | refine blk_drewN ?_ _ | refine blk_drew ?_ | refine blk_alloc ?_ _)); refine blk_put (cs := #[.int .i64 a1_0, .string a1_1, .string a1_2, .int .u64 0]) ?_ 3 _ rfl; (with_reducible repeat (first | refine blk_drewN ?_ _ | refine blk_drew ?_ | refine blk_alloc ?_ _)); refine blk_put (cs := #[.int .i64 a1_0, .string a1_1, .string (⟨#[]⟩ : ByteArray), .int .u64 0]) ?_ 2 _ rfl; (with_reducible repeat (first | refine blk_drewN ?_ _ | refine blk_drew ?_ | refine blk_alloc ?_ _)); refine blk_put (cs := #[.int .i64 a1_0, .string (⟨#[]⟩ : ByteArray), .string (⟨#[]⟩ : ByteArray), .int .u64 0]) ?_ 1 _ rfl; (with_reducible repeat (first | refine blk_drewN ?_ _ | refine blk_drew ?_ | refine blk_alloc ?_ _)); refine blk_put (cs := #[.int .i64 0, .string (⟨#[]⟩ : ByteArray), .string (⟨#[]⟩ : ByteArray), .int .u64 0]) ?_ 0 _ rfl; (with_reducible repeat (first | refine blk_drewN ?_ _ | refine blk_drew ?_ | refine blk_alloc ?_ _)); exact BK297.out) Try.underlying55 rfl (by kernel_rfl)) rfl ?_
                  exact ⟨by first | rfl | (simp [errW_none, errW_some] <;> rfl) | (simp [*, errW_none, errW_some] <;> rfl), by repeat (first | (with_reducible first | exact HB.out | apply below_alloc | apply pw_below_drewN | apply below_drew1 | refine below_set ?_ GE295.out | refine below_set ?_ GE296.out | refine below_set ?_ GE297.out) | exact HB.out)⟩
        · rw [if_neg c25] at H
          have c25b0 : (a1_0 == 3) = false := beq_eq_false_iff_ne.mpr c25
          have c25b1 : (a1_0 != 3) = true := bne_iff_ne.mpr c25
          simp only [Option.some.injEq, Prod.mk.injEq] at H
          obtain ⟨rfl, rfl, rfl, rfl⟩ := H
          have hnb62 := NB296_295.out
          have hnc62 := NB295_296.out
          have hnb63 := NB296_297.out
          have hnc63 := NB297_296.out
          have hcz64_0 : wc.cell? ⟨gb296, 0, none⟩ = some (.int .i64 a1_0) := (blk_cell BK296.out 0).trans rfl
          have hcz64_1 : wc.cell? ⟨gb296, 1, none⟩ = some (.string a1_1) := (blk_cell BK296.out 1).trans rfl
          have hcz64_2 : wc.cell? ⟨gb296, 2, none⟩ = some (.string a1_2) := (blk_cell BK296.out 2).trans rfl
          have hcz64_3 : wc.cell? ⟨gb296, 3, none⟩ = some (.int .u64 a1_3) := (blk_cell BK296.out 3).trans rfl
          have hfz64_0 := blk_frozen BK296.out 0
          have hfz64_1 := blk_frozen BK296.out 1
          have hfz64_2 := blk_frozen BK296.out 2
          have hfz64_3 := blk_frozen BK296.out 3
          have hnb65 := NB297_295.out
          have hnc65 := NB295_297.out
          have hcz66_0 : wc.cell? ⟨gb297, 0, none⟩ = some (.int .i64 0) := (blk_cell BK297.out 0).trans rfl
          have hcz66_1 : wc.cell? ⟨gb297, 1, none⟩ = some (.string (⟨#[]⟩ : ByteArray)) := (blk_cell BK297.out 1).trans rfl
          have hcz66_2 : wc.cell? ⟨gb297, 2, none⟩ = some (.string (⟨#[]⟩ : ByteArray)) := (blk_cell BK297.out 2).trans rfl
          have hcz66_3 : wc.cell? ⟨gb297, 3, none⟩ = some (.int .u64 0) := (blk_cell BK297.out 3).trans rfl
          have hfz66_0 := blk_frozen BK297.out 0
          have hfz66_1 := blk_frozen BK297.out 1
          have hfz66_2 := blk_frozen BK297.out 2
          have hfz66_3 := blk_frozen BK297.out 3
          go_wp2
          refine bodyPost_ret (results_cell_row rfl _ _ gb297 55 #[.int .i64 a1_0, .string a1_1, .string a1_2, .int .u64 a1_3] (0, 0) _ rfl (by (with_reducible repeat (first | refine blk_drewN ?_ _ | refine blk_drew ?_ | refine blk_alloc ?_ _)); refine blk_put (cs := #[.int .i64 a1_0, .string a1_1, .string a1_2, .int .u64 0]) ?_ 3 _ rfl; (with_reducible repeat (first | refine blk_drewN ?_ _ | refine blk_drew ?_ | refine blk_alloc ?_ _)); refine blk_put (cs := #[.int .i64 a1_0, .string a1_1, .string (⟨#[]⟩ : ByteArray), .int .u64 0]) ?_ 2 _ rfl; (with_reducible repeat (first | refine blk_drewN ?_ _ | refine blk_drew ?_ | refine blk_alloc ?_ _)); refine blk_put (cs := #[.int .i64 a1_0, .string (⟨#[]⟩ : ByteArray), .string (⟨#[]⟩ : ByteArray), .int .u64 0]) ?_ 1 _ rfl; (with_reducible repeat (first | refine blk_drewN ?_ _ | refine blk_drew ?_ | refine blk_alloc ?_ _)); refine blk_put (cs := #[.int .i64 0, .string (⟨#[]⟩ : ByteArray), .string (⟨#[]⟩ : ByteArray), .int .u64 0]) ?_ 0 _ rfl; (with_reducible repeat (first | refine blk_drewN ?_ _ | refine blk_drew ?_ | refine blk_alloc ?_ _)); exact BK297.out) Try.underlying55 rfl (by kernel_rfl)) rfl ?_
          exact ⟨by first | rfl | (simp [errW_none, errW_some] <;> rfl) | (simp [*, errW_none, errW_some] <;> rfl), by repeat (first | (with_reducible first | exact HB.out | apply below_alloc | apply pw_below_drewN | apply below_drew1 | refine below_set ?_ GE295.out | refine below_set ?_ GE296.out | refine below_set ?_ GE297.out) | exact HB.out)⟩

/-! ### note_Right: function 32 -/
def note_Right.j0 : Nat → Bool → Int → ByteArray → ByteArray → Int → Option (Bool)
  | 0, _, _, _, _, _ => none
  | k + 1, x12, x304000, x304001, x304002, x304003 => if x12 = true then (some false) else (if x304000 = 1 then (some (x304003 == 0)) else (if x304000 = 2 then (if x304003 = 0 then (some (x304002.toList == ([] : List UInt8))) else (some false)) else (if x304000 = 3 then (some (x304002.toList == ([] : List UInt8))) else (some false))))
def note_Right.f (k : Nat) (a0_0 : Int) (a0_1 : ByteArray) (a0_2 : ByteArray) (a0_3 : Int) : Option (Bool) := if (a0_1.size : Int) > 16 then (note_Right.j0 k true a0_0 a0_1 a0_2 a0_3) else (note_Right.j0 k (decide ((a0_2.size : Int) > 32)) a0_0 a0_1 a0_2 a0_3)
theorem note_Right.mono_l : ∀ k, (∀ y0 y1 y2 y3 y4, LeO (note_Right.j0 k y0 y1 y2 y3 y4) (note_Right.j0 (k + 1) y0 y1 y2 y3 y4))
  | 0 => fun _ _ _ _ _ r h => by simp [note_Right.j0] at h
  | k + 1 => by
    have ih0 := note_Right.mono_l k
    · intro y0 y1 y2 y3 y4
      unfold note_Right.j0
      repeat' first
      | (with_reducible exact ih0 _ _ _ _ _)
      | (with_reducible exact LeO.refl _)
      | (with_reducible exact LeO.none _)
      | (with_reducible refine LeO.ite ?_ ?_)
      | (with_reducible refine LeO.bind ?_ (fun _ => ?_))
      | exact ih0 _ _ _ _ _
      | exact LeO.none _
      | refine LeO.ite ?_ ?_
      | refine LeO.bind ?_ (fun _ => ?_)
theorem note_Right.mono : ∀ a0 a1 a2 a3 k, LeO (note_Right.f k a0 a1 a2 a3) (note_Right.f (k + 1) a0 a1 a2 a3) := by
  intro a0 a1 a2 a3 k
  have ih0 := note_Right.mono_l k
  unfold note_Right.f
  repeat' first
      | (with_reducible exact ih0 _ _ _ _ _)
      | (with_reducible exact LeO.refl _)
      | (with_reducible exact LeO.none _)
      | (with_reducible refine LeO.ite ?_ ?_)
      | (with_reducible refine LeO.bind ?_ (fun _ => ?_))
      | exact ih0 _ _ _ _ _
      | exact LeO.none _
      | refine LeO.ite ?_ ?_
      | refine LeO.bind ?_ (fun _ => ?_)
set_option maxHeartbeats 8000000 in
set_option maxRecDepth 100000 in
theorem note_Right.calls (k : Nat) (a0_0 : Int) (a0_1 : ByteArray) (a0_2 : ByteArray) (a0_3 : Int) (r : Bool) (w : World) (h : note_Right.f k a0_0 a0_1 a0_2 a0_3 = some r) :
    Calls Try.prog 32 #[.agg #[.int .i64 a0_0, .string a0_1, .string a0_2, .int .u64 a0_3]] w fun e w' => e = .returned (.bool r) ∧ Below w.heap.size w w' := by
  have hu55 := Try.underlying55
  have HB := Aside0.mk (Below.refl w.heap.size w)
  have H : (if (a0_1.size : Int) > 16 then (note_Right.j0 k true a0_0 a0_1 a0_2 a0_3) else (note_Right.j0 k (decide ((a0_2.size : Int) > 32)) a0_0 a0_1 a0_2 a0_3)) = some r := h
  clear h
  have HC2 := Aside0.mk H
  clear H
  go_enter Try.func32, Try.ntmps32
  go_upto_region 1 with (first | ((with_reducible refine gate_dst (N := 1) rfl ?_); (try (refine gate_guard (by rfl) ?_; dsimp only)); refine box_event ?hg (N := 1) ?hd (cs := #[.int .i64 a0_0, .string a0_1, .string a0_2, .int .u64 a0_3]) (t := 55) ?hr ?_; (case hd => rfl); (case hg => rfl); (case hr => first | (go_simp; done) | (go_simp; rfl)); intro gb303 hg w3 hbox hb; have n0_ := Aside0.mk (below_step (by repeat (first | (with_reducible first | exact HB.out | apply below_alloc | apply pw_below_drewN | apply below_drew1) | exact HB.out)) hb); have n1_ := Aside0.mk (hbox); have n2_ := Aside0.mk ((by rw [hg]; exact (below_size (by repeat (first | (with_reducible first | exact HB.out | apply below_alloc | apply pw_below_drewN | apply below_drew1) | exact HB.out))) : w.heap.size ≤ gb303)); have n3_ := Aside0.mk ((by rw [hg]; exact (below_size (by repeat (first | (with_reducible first | exact HB.out | apply below_alloc | apply pw_below_drewN | apply below_drew1) | exact HB.out))) : w.heap.size ≤ gb303)); clear HB; have HB := n0_; have BK303 := n1_; have GW303 := n2_; have GE303 := n3_; clear n0_ n1_ n2_ n3_; clear hb hbox hg))
  (try simp only [Act.put, List.setIfInBounds_toArray, List.set_cons_zero, List.set_cons_succ])
  go_cut [12] (fun v12 wc => ∃ (kq : Nat) (x12_1 : Bool), v12 = .bool x12_1 ∧ Aside0 (note_Right.j0 kq x12_1 a0_0 a0_1 a0_2 a0_3 = some r) ∧ Aside0 (kq ≤ k) ∧ Aside0 (wc.heap[gb303]? = some (.cells #[.int .i64 a0_0, .string a0_1, .string a0_2, .int .u64 a0_3] 55 (0, 0))) ∧ Aside0 (Below w.heap.size w wc))
  case first =>
    have H := HC2.out
    clear HC2
    by_cases c4 : (a0_1.size : Int) > 16
    · rw [if_pos c4] at H
      have c4b0 : decide (16 < (a0_1.size : Int)) = true := decide_eq_true c4
      have c4b1 : decide (16 < a0_1.size) = true := decide_eq_true (by omega)
      clear c4
      (first | rw [c4b0] | (simp only [i64_w, i32_w]; rw [c4b0]) | skip)
      have H' := Aside0.mk H
      clear H
      have hcz5_0 : w3.cell? ⟨gb303, 0, none⟩ = some (.int .i64 a0_0) := (blk_cell BK303.out 0).trans rfl
      have hcz5_1 : w3.cell? ⟨gb303, 1, none⟩ = some (.string a0_1) := (blk_cell BK303.out 1).trans rfl
      have hcz5_2 : w3.cell? ⟨gb303, 2, none⟩ = some (.string a0_2) := (blk_cell BK303.out 2).trans rfl
      have hcz5_3 : w3.cell? ⟨gb303, 3, none⟩ = some (.int .u64 a0_3) := (blk_cell BK303.out 3).trans rfl
      have hfz5_0 := blk_frozen BK303.out 0
      have hfz5_1 := blk_frozen BK303.out 1
      have hfz5_2 := blk_frozen BK303.out 2
      have hfz5_3 := blk_frozen BK303.out 3
      go_wp2
      go_meet
      case rel => exact ⟨_, (true), (by first | rfl | (simp; done) | (simp [*]; done)), H', ⟨by first | omega | exact Nat.le_refl _⟩, ⟨by (with_reducible repeat (first | refine blk_drewN ?_ _ | refine blk_drew ?_ | refine blk_alloc ?_ _)); exact BK303.out⟩, ⟨by repeat (first | (with_reducible first | exact HB.out | apply below_alloc | apply pw_below_drewN | apply below_drew1 | refine below_set ?_ GE303.out) | exact HB.out)⟩⟩
    · rw [if_neg c4] at H
      have c4b0 : decide (16 < (a0_1.size : Int)) = false := decide_eq_false c4
      have c4b1 : decide (16 < a0_1.size) = false := decide_eq_false (by omega)
      clear c4
      (first | rw [c4b0] | (simp only [i64_w, i32_w]; rw [c4b0]) | skip)
      have H' := Aside0.mk H
      clear H
      have hcz6_0 : w3.cell? ⟨gb303, 0, none⟩ = some (.int .i64 a0_0) := (blk_cell BK303.out 0).trans rfl
      have hcz6_1 : w3.cell? ⟨gb303, 1, none⟩ = some (.string a0_1) := (blk_cell BK303.out 1).trans rfl
      have hcz6_2 : w3.cell? ⟨gb303, 2, none⟩ = some (.string a0_2) := (blk_cell BK303.out 2).trans rfl
      have hcz6_3 : w3.cell? ⟨gb303, 3, none⟩ = some (.int .u64 a0_3) := (blk_cell BK303.out 3).trans rfl
      have hfz6_0 := blk_frozen BK303.out 0
      have hfz6_1 := blk_frozen BK303.out 1
      have hfz6_2 := blk_frozen BK303.out 2
      have hfz6_3 := blk_frozen BK303.out 3
      go_wp2
      go_meet
      case rel => exact ⟨_, (decide ((a0_2.size : Int) > 32)), (by first | rfl | (simp; done) | (simp [*]; done)), H', ⟨by first | omega | exact Nat.le_refl _⟩, ⟨by (with_reducible repeat (first | refine blk_drewN ?_ _ | refine blk_drew ?_ | refine blk_alloc ?_ _)); exact BK303.out⟩, ⟨by repeat (first | (with_reducible first | exact HB.out | apply below_alloc | apply pw_below_drewN | apply below_drew1 | refine below_set ?_ GE303.out) | exact HB.out)⟩⟩
  case rest =>
    clear HC2
    try clear p2
    try clear c3
    try clear c4
    try clear c4b0
    try clear c4b1
    try clear hcz5_0
    try clear hcz5_1
    try clear hcz5_2
    try clear hcz5_3
    try clear hcz6_0
    try clear hcz6_1
    try clear hcz6_2
    try clear hcz6_3
    try clear hfz5_0
    try clear hfz5_1
    try clear hfz5_2
    try clear hfz5_3
    try clear hfz6_0
    try clear hfz6_1
    try clear hfz6_2
    try clear hfz6_3
    obtain ⟨kq, x12_1, rfl, HA, HJ1, BK303, HB⟩ := hcut
    cases kq with
    | zero => exact absurd HA.out (by simp [note_Right.j0])
    | succ kj1 =>
      have H := HA.out
      clear HA
      simp only [note_Right.j0] at H
      by_cases c7 : x12_1 = true
      · subst c7
        have H1 : (some false) = some r := by rw [if_pos rfl] at H; exact H
        clear H
        have H := H1
        clear H1
        obtain rfl := Option.some.inj H
        go_wp2
        go_ret
        exact ⟨by first | rfl | (simp [errW_none, errW_some] <;> rfl) | (simp [*, errW_none, errW_some] <;> rfl), by repeat (first | (with_reducible first | exact HB.out | apply below_alloc | apply pw_below_drewN | apply below_drew1 | refine below_set ?_ GE303.out) | exact HB.out)⟩
      · replace c7 := Bool.eq_false_iff.mpr c7
        subst c7
        have H1 : (if a0_0 = 1 then (some (a0_3 == 0)) else (if a0_0 = 2 then (if a0_3 = 0 then (some (a0_2.toList == ([] : List UInt8))) else (some false)) else (if a0_0 = 3 then (some (a0_2.toList == ([] : List UInt8))) else (some false)))) = some r := by rw [if_neg (show ¬ (false = true) by decide)] at H; exact H
        clear H
        have H := H1
        clear H1
        by_cases c8 : a0_0 = 1
        · rw [if_pos c8] at H
          have c8b0 : (a0_0 == 1) = true := beq_iff_eq.mpr c8
          have c8b1 : (a0_0 != 1) = false := bne_eq_false_iff_eq.mpr c8
          clear c8
          obtain rfl := Option.some.inj H
          have hcz9_0 : wc.cell? ⟨gb303, 0, none⟩ = some (.int .i64 a0_0) := (blk_cell BK303.out 0).trans rfl
          have hcz9_1 : wc.cell? ⟨gb303, 1, none⟩ = some (.string a0_1) := (blk_cell BK303.out 1).trans rfl
          have hcz9_2 : wc.cell? ⟨gb303, 2, none⟩ = some (.string a0_2) := (blk_cell BK303.out 2).trans rfl
          have hcz9_3 : wc.cell? ⟨gb303, 3, none⟩ = some (.int .u64 a0_3) := (blk_cell BK303.out 3).trans rfl
          have hfz9_0 := blk_frozen BK303.out 0
          have hfz9_1 := blk_frozen BK303.out 1
          have hfz9_2 := blk_frozen BK303.out 2
          have hfz9_3 := blk_frozen BK303.out 3
          go_wp2
          go_ret
          exact ⟨by first | rfl | (simp [errW_none, errW_some] <;> rfl) | (simp [*, errW_none, errW_some] <;> rfl), by repeat (first | (with_reducible first | exact HB.out | apply below_alloc | apply pw_below_drewN | apply below_drew1 | refine below_set ?_ GE303.out) | exact HB.out)⟩
        · rw [if_neg c8] at H
          have c8b0 : (a0_0 == 1) = false := beq_eq_false_iff_ne.mpr c8
          have c8b1 : (a0_0 != 1) = true := bne_iff_ne.mpr c8
          by_cases c10 : a0_0 = 2
          · rw [if_pos c10] at H
            have c10b0 : (a0_0 == 2) = true := beq_iff_eq.mpr c10
            have c10b1 : (a0_0 != 2) = false := bne_eq_false_iff_eq.mpr c10
            clear c10
            by_cases c11 : a0_3 = 0
            · rw [if_pos c11] at H
              have c11b0 : (a0_3 == 0) = true := beq_iff_eq.mpr c11
              have c11b1 : (a0_3 != 0) = false := bne_eq_false_iff_eq.mpr c11
              clear c11
              obtain rfl := Option.some.inj H
              have hcz12_0 : wc.cell? ⟨gb303, 0, none⟩ = some (.int .i64 a0_0) := (blk_cell BK303.out 0).trans rfl
              have hcz12_1 : wc.cell? ⟨gb303, 1, none⟩ = some (.string a0_1) := (blk_cell BK303.out 1).trans rfl
              have hcz12_2 : wc.cell? ⟨gb303, 2, none⟩ = some (.string a0_2) := (blk_cell BK303.out 2).trans rfl
              have hcz12_3 : wc.cell? ⟨gb303, 3, none⟩ = some (.int .u64 a0_3) := (blk_cell BK303.out 3).trans rfl
              have hfz12_0 := blk_frozen BK303.out 0
              have hfz12_1 := blk_frozen BK303.out 1
              have hfz12_2 := blk_frozen BK303.out 2
              have hfz12_3 := blk_frozen BK303.out 3
              go_wp2
              go_ret
              exact ⟨by first | rfl | (simp [errW_none, errW_some] <;> rfl) | (simp [*, errW_none, errW_some] <;> rfl), by repeat (first | (with_reducible first | exact HB.out | apply below_alloc | apply pw_below_drewN | apply below_drew1 | refine below_set ?_ GE303.out) | exact HB.out)⟩
            · rw [if_neg c11] at H
              have c11b0 : (a0_3 == 0) = false := beq_eq_false_iff_ne.mpr c11
              have c11b1 : (a0_3 != 0) = true := bne_iff_ne.mpr c11
              obtain rfl := Option.some.inj H
              have hcz13_0 : wc.cell? ⟨gb303, 0, none⟩ = some (.int .i64 a0_0) := (blk_cell BK303.out 0).trans rfl
              have hcz13_1 : wc.cell? ⟨gb303, 1, none⟩ = some (.string a0_1) := (blk_cell BK303.out 1).trans rfl
              have hcz13_2 : wc.cell? ⟨gb303, 2, none⟩ = some (.string a0_2) := (blk_cell BK303.out 2).trans rfl
              have hcz13_3 : wc.cell? ⟨gb303, 3, none⟩ = some (.int .u64 a0_3) := (blk_cell BK303.out 3).trans rfl
              have hfz13_0 := blk_frozen BK303.out 0
              have hfz13_1 := blk_frozen BK303.out 1
              have hfz13_2 := blk_frozen BK303.out 2
              have hfz13_3 := blk_frozen BK303.out 3
              go_wp2
              go_ret
              exact ⟨by first | rfl | (simp [errW_none, errW_some] <;> rfl) | (simp [*, errW_none, errW_some] <;> rfl), by repeat (first | (with_reducible first | exact HB.out | apply below_alloc | apply pw_below_drewN | apply below_drew1 | refine below_set ?_ GE303.out) | exact HB.out)⟩
          · rw [if_neg c10] at H
            have c10b0 : (a0_0 == 2) = false := beq_eq_false_iff_ne.mpr c10
            have c10b1 : (a0_0 != 2) = true := bne_iff_ne.mpr c10
            by_cases c14 : a0_0 = 3
            · rw [if_pos c14] at H
              have c14b0 : (a0_0 == 3) = true := beq_iff_eq.mpr c14
              have c14b1 : (a0_0 != 3) = false := bne_eq_false_iff_eq.mpr c14
              clear c14
              obtain rfl := Option.some.inj H
              have hcz15_0 : wc.cell? ⟨gb303, 0, none⟩ = some (.int .i64 a0_0) := (blk_cell BK303.out 0).trans rfl
              have hcz15_1 : wc.cell? ⟨gb303, 1, none⟩ = some (.string a0_1) := (blk_cell BK303.out 1).trans rfl
              have hcz15_2 : wc.cell? ⟨gb303, 2, none⟩ = some (.string a0_2) := (blk_cell BK303.out 2).trans rfl
              have hcz15_3 : wc.cell? ⟨gb303, 3, none⟩ = some (.int .u64 a0_3) := (blk_cell BK303.out 3).trans rfl
              have hfz15_0 := blk_frozen BK303.out 0
              have hfz15_1 := blk_frozen BK303.out 1
              have hfz15_2 := blk_frozen BK303.out 2
              have hfz15_3 := blk_frozen BK303.out 3
              go_wp2
              go_ret
              exact ⟨by first | rfl | (simp [errW_none, errW_some] <;> rfl) | (simp [*, errW_none, errW_some] <;> rfl), by repeat (first | (with_reducible first | exact HB.out | apply below_alloc | apply pw_below_drewN | apply below_drew1 | refine below_set ?_ GE303.out) | exact HB.out)⟩
            · rw [if_neg c14] at H
              have c14b0 : (a0_0 == 3) = false := beq_eq_false_iff_ne.mpr c14
              have c14b1 : (a0_0 != 3) = true := bne_iff_ne.mpr c14
              obtain rfl := Option.some.inj H
              have hcz16_0 : wc.cell? ⟨gb303, 0, none⟩ = some (.int .i64 a0_0) := (blk_cell BK303.out 0).trans rfl
              have hcz16_1 : wc.cell? ⟨gb303, 1, none⟩ = some (.string a0_1) := (blk_cell BK303.out 1).trans rfl
              have hcz16_2 : wc.cell? ⟨gb303, 2, none⟩ = some (.string a0_2) := (blk_cell BK303.out 2).trans rfl
              have hcz16_3 : wc.cell? ⟨gb303, 3, none⟩ = some (.int .u64 a0_3) := (blk_cell BK303.out 3).trans rfl
              have hfz16_0 := blk_frozen BK303.out 0
              have hfz16_1 := blk_frozen BK303.out 1
              have hfz16_2 := blk_frozen BK303.out 2
              have hfz16_3 := blk_frozen BK303.out 3
              go_wp2
              go_ret
              exact ⟨by first | rfl | (simp [errW_none, errW_some] <;> rfl) | (simp [*, errW_none, errW_some] <;> rfl), by repeat (first | (with_reducible first | exact HB.out | apply below_alloc | apply pw_below_drewN | apply below_drew1 | refine below_set ?_ GE303.out) | exact HB.out)⟩

end Go.Proofs.Ytgccimhdbphenaa.F
